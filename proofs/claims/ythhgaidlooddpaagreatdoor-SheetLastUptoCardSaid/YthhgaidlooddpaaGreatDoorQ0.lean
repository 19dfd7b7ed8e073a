/-
  Plain laws of the lifted program, part 0.
-/
import Derived.Test.YthhgaidlooddpaaGreatDoorLf0
import Derived.Test.YthhgaidlooddpaaGreatDoorAmA
import Derived.Test.YthhgaidlooddpaaGreatDoorAmD
set_option linter.unusedVariables false
open Go.AM.T (fh jG qp qz uQ vI vj vk vu y5 z2z z6 z7 z8 zJ za zb zg zj zo zp)
namespace Go.AM.PL
def Z9{α:Type}(p:α->Bool)(i:Int):List α->Int
 | [] => -1
 | x::r=>if p x=true then i else Z9 p (i+1) r
theorem WV{α:Type}(p:α->Bool)(l:List α)(i:Int)(h:0<=i):decide (0<=Z9 p i l)=l.any p:=by
 induction l generalizing i with
 | nil=>rfl
 | cons x r ih =>
  simp only[Z9,List.any_cons]
  split
  ·rename_i hp; rw[hp]; simp[h]
  ·rename_i hp; rw[ih (i+1) (by omega)]; simp[hp]
theorem Q0{α:Type}(l:List α)(d:α)(p:α->Bool){r:Int->T (Int⊕(Unit⊕Int))}
  (h1:∀ i,0<=i->i<(l.length:Int)->p (nth l i d)=true->(r i).run=some (.inr (.inr i)))
  (h2:∀ i,0<=i->i<(l.length:Int)->p (nth l i d)=false->(r i).run=some (.inl (i+1)))
  (h3:∀ i,¬ i<(l.length:Int)->(r i).run=some (.inr (.inl ()))):(T.loop r 0).run=some (if Z9 p 0 l = -1 then .inl ()else .inr (Z9 p 0 l)):=by
 have:=vI (r:=r) (λi=>0<=i) (λi=>((l.length:Int)-i).toNat) (λi=>if Z9 p i (l.drop i.toNat) = -1 then .inl ()else .inr (Z9 p i (l.drop i.toNat))) (λi h => ?_) (s:=0) (Int.le_refl 0)
 ·simpa using this
 ·by_cases hi:i<l.length
  ·rw[Cg l d h hi]
   cases hp:p (nth l i d)with
   | true =>
    right
    have:¬ i = -1:=by omega
    rw[h1 i h hi hp]
    simp[Z9,hp,this]
   | false =>
    left
    exact⟨i+1,h2 i h hi hp,by omega,by omega,by simp[Z9,hp]⟩
  ·right
   rw[RE _ hi,h3 i hi]
   rfl
theorem xP(a b:ze):zh a b=decide (a=b):=by
 unfold zh
 by_cases h:a=b
 ·subst h; simp
 ·simp[h]
end Go.AM.PL
namespace Go.AM.Lf
open PL
theorem z1m(e:Expr):1<=bkE e:=by cases e; simp only[bkE]; omega
theorem BQ{l:List Expr}{e:Expr}(h:e∈l):bkE e<=bkEs l:=by
 induction l with
 | nil=>cases h
 | cons x r ih =>
  simp only[bkEs]
  rcases List.mem_cons.1 h with rfl | h
  ·omega
  ·have:=ih h; omega
theorem X5(e:Expr):bkEs e.kids<bkE e:=by cases e; simp only[Expr.kids,bkE]; omega
theorem Dw(l:List Expr):l.length<=bkEs l:=by
 induction l with
 | nil=>exact Nat.le_refl _
 | cons x r ih=>have:=z1m x; simp only[bkEs,List.length_cons]; omega
theorem bP{α:Type}{l:List α}{i:Int}{d:α}(h:0<=i)(hi:i<(l.length:Int)):nth l i d∈l:=by
 unfold nth
 have:i.toNat<l.length:=by omega
 simp[List.getD_eq_getElem?_getD,this]
mutual
def wtE:Expr->Int->Int
 | .mk _ n s l,left=>wtEs l (left-3-s.length-8*n.2.1.length-8*n.2.2.1.length)
def wtEs:List Expr->Int->Int
 | [],left=>left
 | e::r,left=>if 0<=left then wtEs r (wtE e left)else left
end
mutual
theorem Xb:∀ (e:Expr) (left:Int),wtE e left<=left/\left-16*bkE e<=wtE e left
 | .mk _ n s l,left=>by
  have:=HH l (left-3-s.length-8*n.2.1.length-8*n.2.2.1.length)
  simp only[wtE,bkE]
  constructor<;>omega
theorem HH:∀ (l:List Expr) (left:Int),wtEs l left<=left/\left-16*bkEs l<=wtEs l left
 | [],left=>by simp[wtEs,bkEs]
 | e::r,left=>by
  have h1:=Xb e left
  have h2:=HH r (wtE e left)
  simp only[wtEs,bkEs]
  split<;>constructor<;>omega
end
theorem PX(l:List Expr)(left:Int)(h:¬ 0<=left):wtEs l left=left:=by cases l<;>simp[wtEs,h]
end Go.AM.Lf
namespace Go.AM.PL
def nv:List Int->Nat
 | []=>0
 | x::l=>x.toNat+4294967296*nv l
def zm(l:List Int):Prop:=∀ x∈l,0<=x/\x<4294967296
def zu(n:Nat):List Int:=if h:n=0 then[]else((n % 4294967296:Nat):Int)::zu (n / 4294967296)
termination_by n
decreasing_by omega
theorem ql:zu 0=[]:=by rw[zu]; rfl
theorem kt{n:Nat}(h:n≠0):zu n=((n % 4294967296:Nat):Int)::zu (n / 4294967296):=by rw[zu,dif_neg h]
theorem bA:zm []:=λ_ h=>nomatch h
theorem mI{x:Int}{l:List Int}:zm (x::l)↔(0<=x/\x<4294967296)/\zm l:=by
 unfold zm; simp[List.forall_mem_cons]
theorem nk{a b:List Int}:zm (a++b)↔zm a/\zm b:=by
 unfold zm; simp only[List.mem_append]
 exact⟨λh=>⟨λx hx=>h x (.inl hx),λx hx=>h x (.inr hx)⟩,λh x hx=>hx.elim (h.1 x) (h.2 x)⟩
theorem mv{a:List Int}(h:zm a)(n:Nat):zm (a.take n):=λx hx=>h x (List.mem_of_mem_take hx)
theorem eS{a:List Int}(h:zm a)(n:Nat):zm (a.drop n):=λx hx=>h x (List.mem_of_mem_drop hx)
theorem xp(n:Nat):zm (List.replicate n 0):=λx hx=>by
 have:=(List.mem_replicate.1 hx).2; omega
theorem dI{a:List Int}(h:zm a)(i:Nat){x:Int}(h0:0<=x)(h1:x<4294967296):zm (a.set i x):=λy hy=>by
 rcases List.mem_or_eq_of_mem_set hy with h' | h'
 ·exact h y h'
 ·subst h'; exact⟨h0,h1⟩
theorem KR{a:List Int}(h:zm a)(i:Int):0<=nth a i 0/\nth a i 0<4294967296:=by
 unfold nth
 rw[List.getD_eq_getElem?_getD]
 cases hx:a[i.toNat]? with
 | none=>simp
 | some x=>exact h x (List.mem_of_getElem? hx)
theorem zn(n:Nat):zm (zu n):=by
 induction n using Nat.strongRecOn with
 | _ n ih =>
  by_cases h:n=0
  ·subst h; rw[ql]; exact bA
  ·rw[kt h]
   exact mI.2 ⟨by omega,ih _ (by omega)⟩
@[simp] theorem Hb:nv []=0:=rfl
@[simp] theorem db(x:Int)(l:List Int):nv (x::l)=x.toNat+4294967296*nv l:=rfl
@[simp] theorem zW(n:Nat):nv (zu n)=n:=by
 induction n using Nat.strongRecOn with
 | _ n ih =>
  by_cases h:n=0
  ·subst h; rw[ql]; rfl
  ·rw[kt h,db,ih _ (by omega)]; omega
theorem yR(a b:List Int):nv (a++b)=nv a+4294967296 ^ a.length*nv b:=by
 induction a with
 | nil=>simp
 | cons x a ih=>simp only[List.cons_append,db,ih,List.length_cons,Nat.pow_succ,Nat.mul_add]; rw[<- Nat.mul_assoc,Nat.mul_comm 4294967296 (4294967296 ^ a.length)]; omega
theorem yN{l:List Int}(h:zm l):nv l<4294967296 ^ l.length:=by
 induction l with
 | nil=>simp
 | cons x l ih =>
  have h':=mI.1 h
  have:=ih h'.2
  simp only[db,List.length_cons,Nat.pow_succ]
  omega
@[simp] theorem z4e(n:Nat):nv (List.replicate n 0)=0:=by
 induction n with
 | zero=>rfl
 | succ n ih=>simp[List.replicate_succ,ih]
def Wi(l:List Int):Prop:=∀ x,l.getLast? = some x->x≠0
theorem Xv:Wi []:=λ_ h=>nomatch h
theorem VN{x:Int}{l:List Int}(h:Wi (x::l)):Wi l:=by
 cases l with
 | nil=>exact Xv
 | cons y l=>intro z hz; exact h z (by simpa[List.getLast?_cons_cons]using hz)
theorem z8S{l:List Int}(h:zm l)(ht:Wi l)(hn:l≠[]):nv l≠0:=by
 induction l with
 | nil=>exact absurd rfl hn
 | cons x l ih =>
  have h':=mI.1 h
  cases l with
  | nil =>
   have:=ht x rfl
   simp; omega
  | cons y l =>
   have:=ih h'.2 (VN ht) (by simp)
   rw[db]; omega
theorem tr{l:List Int}(h:zm l)(ht:Wi l):zu (nv l)=l:=by
 induction l with
 | nil=>exact ql
 | cons x l ih =>
  have h':=mI.1 h
  have h1:=ih h'.2 (VN ht)
  rw[kt (z8S h ht (by simp)),db]
  have e1:(x.toNat+4294967296*nv l) % 4294967296=x.toNat:=by omega
  have e2:(x.toNat+4294967296*nv l) / 4294967296=nv l:=by omega
  rw[e1,e2,h1]
  congr 1; omega
theorem rZ(n:Nat):Wi (zu n):=by
 induction n using Nat.strongRecOn with
 | _ n ih =>
  by_cases h:n=0
  ·subst h; rw[ql]; exact Xv
  ·rw[kt h]
   intro x hx
   by_cases h2:n / 4294967296=0
   ·rw[h2,ql]at hx
    simp at hx; omega
   ·have:=ih (n / 4294967296) (by omega)
    have vM:zu (n / 4294967296)≠[]:=by rw[kt h2]; simp
    refine this x ?_
    rw[<- hx]
    cases hc:zu (n / 4294967296)with
    | nil=>exact absurd hc vM
    | cons y l=>rw[List.getLast?_cons_cons]
theorem qZ{n:Nat}:zu n=[]↔n=0:=by
 constructor
 ·intro h; rw[<- zW n,h]; rfl
 ·rintro rfl; exact ql
theorem J2(l:List Int):nv (l++[0])=nv l:=by simp[yR]
theorem zR{n k:Nat}:(zu n).length<=k↔n<4294967296 ^ k:=by
 induction k generalizing n with
 | zero =>
  simp only[Nat.le_zero_eq,List.length_eq_zero_iff,qZ,Nat.pow_zero]; omega
 | succ k ih =>
  by_cases h:n=0
  ·subst h; rw[ql]; simp[Nat.pow_pos]
  ·rw[kt h,List.length_cons,Nat.pow_succ,Nat.add_le_add_iff_right,ih]
   rw[Nat.div_lt_iff_lt_mul (by omega)]
theorem Fg{n k:Nat}:k<(zu n).length↔4294967296 ^ k<=n:=by
 have:=zR (n:=n) (k:=k); omega
theorem zw{l:List Int}(h:zm l):(zu (nv l)).length<=l.length:=zR.2 (yN h)
theorem HD{a b:List Int}(i:Int)(h:(a.length:Int)<=i):nth (a++b) i 0=nth b (i-a.length) 0:=by
 unfold nth
 rw[List.getD_eq_getElem?_getD,List.getD_eq_getElem?_getD,List.getElem?_append_right (by omega)]
 congr 2; omega
theorem iT(a:List Int)(i:Nat)(h:i<a.length):a.take (i+1)=a.take i++[nth a i 0]:=by
 rw[List.take_succ_eq_append_getElem h]; simp[nth,h]
theorem QC{a:List Int}{i:Nat}(h:i<a.length):nv (a.take (i+1))=nv (a.take i)+4294967296 ^ i*(nth a i 0).toNat:=by
 rw[iT a i h,yR]
 have:(a.take i).length=i:=by simp; omega
 simp[this]
theorem kS(a:List Int)(i:Nat)(h:i<=a.length):nv a=nv (a.take i)+4294967296 ^ i*nv (a.drop i):=by
 have:=yR (a.take i) (a.drop i)
 rw[List.take_append_drop]at this
 rw[this]; congr 3; simp; omega
theorem DI{a:List Int}{i:Nat}(h:i<a.length):nv (a.drop i)=(nth a i 0).toNat+4294967296*nv (a.drop (i+1)):=by
 rw[List.drop_eq_getElem_cons h,db]; simp[nth,h,List.getD_eq_getElem?_getD]
theorem XN{α:Type}(a:List α)(i j:Nat)(x:α)(h:j<=i):(a.set i x).take j=a.take j:=by
 rw[List.take_set_of_le h]
theorem sK(a:List Int)(i:Nat)(x:Int)(h:i<a.length):(a.set i x).take (i+1)=a.take i++[x]:=by
 rw[iT _ _ (by simpa using h),List.take_set_of_le (Nat.le_refl _)]
 simp[nth,h]
theorem j5(a:List Int)(i:Nat)(x:Int):(a.set i x).drop (i+1)=a.drop (i+1):=by
 rw[List.drop_set_of_lt (by omega)]
end Go.AM.PL
namespace Go.AM.T
variable {σ ρ:Type}
theorem qI{r:σ->T (σ⊕ρ)}(I:σ->Prop)(μ:σ->Nat)(Q:ρ->Prop)
  (h:∀ s,I s->(∃ s',(r s).run=some (.inl s')/\I s'/\μ s'<μ s)\/(∃ x,(r s).run=some (.inr x)/\Q x)) {s:σ} (hs:I s):∃ x,(loop r s).run=some x/\Q x:=by
 generalize hm:μ s=m
 induction m using Nat.strongRecOn generalizing s with
 | _ m ih =>
  rcases h s hs with⟨s',h1,h2,h3⟩ | ⟨x,h1,h2⟩
  ·rw[vu h1]
   exact ih (μ s') (by omega) h2 rfl
  ·exact⟨x,qz h1,h2⟩
end Go.AM.T
namespace Go.AM.PL
def lm(a:List Int)(i:Nat):Nat:=(nth a (i:Int) 0).toNat
theorem wk{a:List Int}(h:zm a)(i:Nat):lm a i<4294967296:=by have:=KR h i; unfold lm; omega
theorem wR{a:List Int}(h:zm a)(i:Nat):nth a (i:Int) 0=(lm a i:Int):=by have:=KR h i; unfold lm; omega
theorem jr{a:List Int}(h:zm a)(i:Nat):yE a i 0=(lm a i:Int):=by have:=wR h i; unfold nth at this; unfold yE; simpa using this
theorem Lw{a:List Int}{i:Nat}(h:a.length<=i):lm a i=0:=by
 unfold lm nth; simp[List.getD_eq_getElem?_getD,List.getElem?_eq_none h]
theorem zY(a:List Int)(i:Nat):nv (a.take (i+1))=nv (a.take i)+4294967296 ^ i*lm a i:=by
 by_cases h:i<a.length
 ·exact QC h
 ·rw[Lw (by omega),List.take_of_length_le (by omega),List.take_of_length_le (by omega)]; simp
theorem qC{a:List Int}{i:Nat}(h:a.length<=i):nv (a.take i)=nv a:=by rw[List.take_of_length_le h]
theorem F0(a:List Int)(i:Nat):nv (a.take i)<=nv a:=by
 have:=yR (a.take i) (a.drop i)
 rw[List.take_append_drop]at this; omega
theorem Xt{a:List Int}{i j:Nat}{x:Int}(h:i<a.length):lm (a.set i x) j=if i=j then x.toNat else lm a j:=by
 unfold lm nth
 simp only[Int.toNat_natCast,List.getD_eq_getElem?_getD,List.getElem?_set]
 by_cases e:i=j
 ·subst e; simp[h]
 ·simp[e]
theorem Xu{a:List Int}{i:Nat}(x:Int)(h:i<a.length):nv (a.set i x)+4294967296 ^ i*lm a i=nv a+4294967296 ^ i*x.toNat:=by
 have h1:=kS (a.set i x) (i+1) (by simp; omega)
 have h2:=kS a (i+1) (by omega)
 rw[j5,sK a i x h,yR]at h1
 rw[zY]at h2
 have h3:(a.take i).length=i:=by simp; omega
 rw[h3]at h1
 simp only[db,Hb,Nat.mul_zero,Nat.add_zero]at h1
 omega
theorem uJ{a:List Int}{i:Nat}(x:Int)(h:i<a.length):nv ((a.set i x).take (i+1))=nv (a.take i)+4294967296 ^ i*x.toNat:=by
 rw[sK a i x h,yR]
 have h3:(a.take i).length=i:=by simp; omega
 rw[h3]; simp
theorem ZM(i:Nat):0<4294967296 ^ i:=Nat.pow_pos (by omega)
theorem uu{a:List Int}(h:zm a)(i:Nat):nv (a.take i)<4294967296 ^ i:=by
 have:=yN (mv h i)
 have h2:(4294967296:Nat) ^ (a.take i).length<=4294967296 ^ i:=Nat.pow_le_pow_right (by omega) (by simp; omega)
 omega
def so(a b:Nat):Int:=if a<b then -1 else if b<a then 1 else 0
theorem Cp{r:Int->T (Int⊕(Unit⊕Int))}(x y:List Int)(hx:zm x)(hy:zm y)(hl:x.length=y.length)
  (h:∀ i:Nat,i<x.length->(r (i:Int)).run=some (if nth x i 0<nth y i 0 then .inr (.inr (-1))else if nth y i 0<nth x i 0 then .inr (.inr 1)else .inl ((i:Int)-1)))
  (h0:(r (-1)).run=some (.inr (.inl ()))):(T.loop r ((x.length:Int)-1)).run=some (if nv x<nv y then .inr (-1)else if nv y<nv x then .inr 1 else .inl ()):=by
 have key:∀ n:Nat,n<=x.length->(T.loop r ((n:Int)-1)).run=some (if nv (x.take n)<nv (y.take n)then .inr (-1)else if nv (y.take n)<nv (x.take n)then .inr 1 else .inl ()):=by
  intro n
  induction n with
  | zero=>intro _; simpa using qz h0
  | succ n ih =>
   intro hn
   have e1:((n+1:Nat):Int)-1=(n:Int):=by omega
   rw[e1]
   have hr:=h n (by omega)
   rw[wR hx,wR hy]at hr
   have a1:=uu hx n
   have a2:=uu hy n
   rw[zY,zY]
   rcases Nat.lt_trichotomy (lm x n) (lm y n)with c | c | c
   ·have hm:=Nat.mul_le_mul_left (4294967296 ^ n) (show lm x n+1<=lm y n by omega)
    rw[Nat.mul_add]at hm
    rw[if_pos (by omega)]at hr
    rw[if_pos (by omega)]
    exact qz hr
   ·rw[if_neg (by omega),if_neg (by omega)]at hr
    rw[vu hr,ih (by omega),c]
    simp only[Nat.add_lt_add_iff_right]
   ·have hm:=Nat.mul_le_mul_left (4294967296 ^ n) (show lm y n+1<=lm x n by omega)
    rw[Nat.mul_add]at hm
    rw[if_neg (by omega),if_pos (by omega)]at hr
    rw[if_neg (by omega),if_pos (by omega)]
    exact qz hr
 have:=key x.length (Nat.le_refl _)
 rw[List.take_length]at this
 rw[hl,List.take_length,<- hl]at this
 exact this
theorem lg{A B:Nat}(h:(zu A).length<(zu B).length):A<B:=by
 have h1:=zR.1 (Nat.le_refl (zu A).length)
 have h2:=Fg.1 h
 omega
end Go.AM.PL
namespace Go.AM.PL
theorem J9(q a b c:Nat):q*(a*c+b)=(q*a)*c+q*b:=by grind
theorem ER(a b:Nat):(a+1)*b=a*b+b:=by grind
theorem z6i(a b c:Nat):(a+b)*c=a*c+b*c:=by grind
theorem D3{u2 u1 u0 v1 v2 q r:Nat}(hr:q*v1+r=u2*4294967296+u1)(h:q*v2<=r*4294967296+u0) :
  q*(v1*4294967296+v2)<=u2*18446744073709551616+u1*4294967296+u0:=by
 rw[J9]
 generalize q*v1=x at *
 generalize q*v2=y at *
 omega
theorem Pp{u2 u1 u0 v1 v2 q r:Nat}(hr:q*v1+r=u2*4294967296+u1)(h:r*4294967296+u0<q*v2) :
  u2*18446744073709551616+u1*4294967296+u0<q*(v1*4294967296+v2):=by
 rw[J9]
 generalize q*v1=x at *
 generalize q*v2=y at *
 grind
theorem z0G{U V q:Nat}(hV:0<V)(h:U<q*V):U / V<q:=(Nat.div_lt_iff_lt_mul hV).2 h
theorem Eh{u2 u1 u0 v1 v2:Nat}(hv:0<v1)(hu0:u0<4294967296):(u2*18446744073709551616+u1*4294967296+u0) / (v1*4294967296+v2)<=(u2*4294967296+u1) / v1:=by
 rw[Nat.le_div_iff_mul_le hv]
 have h:=Nat.div_mul_le_self (u2*18446744073709551616+u1*4294967296+u0) (v1*4294967296+v2)
 generalize (u2*18446744073709551616+u1*4294967296+u0) / (v1*4294967296+v2)=q at *
 have e:=J9 q v1 v2 4294967296
 rw[e]at h; omega
theorem OH{u2 u1 u0 v1 v2:Nat}(hv:2147483648<=v1)(Qa:v2<4294967296)(h:u2*18446744073709551616+u1*4294967296+u0<(v1*4294967296+v2+1)*4294967296) :
  (u2*4294967296+u1)<=v1*4294967296+v2/\(u2*4294967296+u1) / v1<=4294967297:=by
 have h1:u2*4294967296+u1<=v1*4294967296+v2:=by omega
 refine⟨h1,?_⟩
 rw[Nat.div_le_iff_le_mul (by omega)]
 omega
theorem Ml{U V D U3 V2 X Y q:Nat}(hU:U=U3*D+X)(hX:X<D)(hV:V=V2*D+Y)(hY:Y<D)(hVt:2147483648*4294967296<=V2)(hUV:U<V*4294967296)(hq:q=min (U3 / V2) 4294967295) :
  U / V<=q/\q<=U / V+1:=by
 have hD:0<D:=by omega
 have hV2:0<V2:=by omega
 have hVp:0<V:=by rw[hV]; have:=Nat.mul_pos hV2 hD; omega
 constructor
 ·rw[hq,Nat.le_min]
  constructor
  ·rw[Nat.le_div_iff_mul_le hV2]
   have h:=Nat.div_mul_le_self U V
   generalize U / V=z at *
   rw[hV,hU]at h
   have e:=J9 z V2 Y D
   rw[e]at h
   have h2:(z*V2)*D<(U3+1)*D:=by 
    rw[ER]
    generalize z*V2*D=m at *
    generalize z*Y=m2 at *
    omega
   exact Nat.lt_succ_iff.1 (Nat.lt_of_mul_lt_mul_right h2)
  ·have:U / V<4294967296:=(Nat.div_lt_iff_lt_mul hVp).2 (by rw[Nat.mul_comm]; exact hUV)
   omega
 ·have h3:q<=U3 / V2:=by omega
  have h4:q<=4294967295:=by omega
  have h5:q*V2<=U3:=(Nat.le_div_iff_mul_le hV2).1 h3
  cases q with
  | zero=>exact Nat.zero_le _
  | succ q =>
   have:q<=U / V:=by
    rw[Nat.le_div_iff_mul_le hVp,hV,hU]
    have e:=J9 q V2 Y D
    have e2:=ER q V2
    have h6:(q*V2+V2)*D<=U3*D:=Nat.mul_le_mul_right D (by omega)
    have e3:=z6i (q*V2) V2 D
    have h7:q*Y<=4294967295*D:=Nat.mul_le_mul (by omega) (by omega)
    have h8:4294967295*D<=V2*D:=Nat.mul_le_mul_right D (by omega)
    rw[e]; omega
   omega
end Go.AM.PL
namespace Go.AM.PL
theorem HQ(n:Nat)(h:n<18446744073709551616):IntKind.wrap .u64 (n:Int)=n:=qm (by omega) (by omega)
theorem ni(n:Nat)(h:n<4294967296):IntKind.wrap .u32 (n:Int)=n:=ZQ (by omega) (by omega)
theorem yM{n:Nat}(h:n<18446744073709551616):zO (n:Int)=n:=qm (by omega) (by omega)
theorem sV{n:Nat}(h:n<4294967296):xR (n:Int)=n:=ZQ (by omega) (by omega)
theorem xL{a:List Int}(h:zm a)(i:Nat){n:Nat}(h1:n<4294967296):zm (a.set i (n:Int)):=dI h i (by omega) (by omega)
theorem Jr{x y:Nat}(hx:x<4294967296)(hy:y<4294967296):FC .u32 (x:Int) (y:Int)=((x &&& y:Nat):Int):=by
 show IntKind.wrap .u32 (((BitVec.ofInt 32 (x:Int) &&& BitVec.ofInt 32 (y:Int)).toNat:Nat):Int)=_
 have e:(BitVec.ofInt 32 (x:Int) &&& BitVec.ofInt 32 (y:Int)).toNat=x &&& y:=by
  simp[BitVec.ofInt_natCast,Nat.mod_eq_of_lt hx,Nat.mod_eq_of_lt hy]
 rw[e]
 exact ni _ (Nat.lt_of_le_of_lt Nat.and_le_left hx)
theorem ZX{x y:Nat}(hx:x<4294967296)(hy:y<4294967296):Z6 .u32 (x:Int) (y:Int)=((x ||| y:Nat):Int):=by
 show IntKind.wrap .u32 (((BitVec.ofInt 32 (x:Int) ||| BitVec.ofInt 32 (y:Int)).toNat:Nat):Int)=_
 have e:(BitVec.ofInt 32 (x:Int) ||| BitVec.ofInt 32 (y:Int)).toNat=x ||| y:=by
  simp[BitVec.ofInt_natCast,Nat.mod_eq_of_lt hx,Nat.mod_eq_of_lt hy]
 rw[e]
 exact ni _ (Nat.or_lt_two_pow (n:=32) hx hy)
theorem VQ{x y:Nat}(hx:x<4294967296)(hy:y<4294967296):Fp .u32 (x:Int) (y:Int)=((x ^^^ y:Nat):Int):=by
 show IntKind.wrap .u32 (((BitVec.ofInt 32 (x:Int) ^^^ BitVec.ofInt 32 (y:Int)).toNat:Nat):Int)=_
 have e:(BitVec.ofInt 32 (x:Int) ^^^ BitVec.ofInt 32 (y:Int)).toNat=x ^^^ y:=by
  simp[BitVec.ofInt_natCast,Nat.mod_eq_of_lt hx,Nat.mod_eq_of_lt hy]
 rw[e]
 exact ni _ (Nat.xor_lt_two_pow (n:=32) hx hy)
theorem IS{x y:Nat}(hx:x<18446744073709551616)(hy:y<18446744073709551616):Z6 .u64 (x:Int) (y:Int)=((x ||| y:Nat):Int):=by
 show IntKind.wrap .u64 (((BitVec.ofInt 64 (x:Int) ||| BitVec.ofInt 64 (y:Int)).toNat:Nat):Int)=_
 have e:(BitVec.ofInt 64 (x:Int) ||| BitVec.ofInt 64 (y:Int)).toNat=x ||| y:=by
  simp[BitVec.ofInt_natCast,Nat.mod_eq_of_lt hx,Nat.mod_eq_of_lt hy]
 rw[e]
 exact HQ _ (Nat.or_lt_two_pow (n:=64) hx hy)
theorem Jp(x y m:Nat)(hy:y<2 ^ m):x*2 ^ m ||| y=x*2 ^ m+y:=by
 have:=Nat.shiftLeft_add_eq_or_of_lt hy x
 rw[Nat.shiftLeft_eq]at this
 exact this.symm
theorem zc2{x:Int}(h0:0<=x)(h1:x<4294967296):yt .u64 x 32=x*4294967296:=by
 have e:yt .u64 x 32=zO (x*4294967296):=rfl
 rw[e,qm (by omega) (by omega)]
theorem zgF{x y:Int}(h0:0<=x)(h1:x<4294967296)(h2:0<=y)(h3:y<4294967296):Z6 .u64 (yt .u64 x 32) (zO y)=x*4294967296+y:=by
 rw[zc2 h0 h1,qm h2 (by omega)]
 obtain⟨a,rfl⟩:=Int.eq_ofNat_of_zero_le h0
 obtain⟨b,rfl⟩:=Int.eq_ofNat_of_zero_le h2
 have e:=IS (x:=a*4294967296) (y:=b) (by omega) (by omega)
 rw[Jp a b 32 (by simpa using by omega)]at e
 simpa using e
theorem BE{x y:Int}(h0:0<=x)(h1:x<4294967296)(h2:0<=y)(h3:y<4294967296):Z6 .u64 (yt .u64 x 32) y=x*4294967296+y:=by
 have:=zgF h0 h1 h2 h3
 rwa [qm h2 (by omega)]at this
theorem z08{x:Int}(h0:0<=x):wH .u64 x 32=x / 4294967296:=by
 show Int.fdiv x 4294967296=_
 rw[Int.fdiv_eq_ediv_of_nonneg _ (by omega)]
theorem cr{x y:Int}(h:0<=x):Int.tdiv x y=x / y:=Int.tdiv_eq_ediv_of_nonneg h
theorem bX{x y:Int}(h:0<=x):Int.tmod x y=x % y:=Int.tmod_eq_emod_of_nonneg h
theorem zdF{v:Nat}(h:v<4294967296):v / 2147483648=if v.testBit 31=true then 1 else 0:=by
 have e:v.testBit 31=decide (v / 2 ^ 31 % 2=1):=by rw[Nat.testBit_eq_decide_div_mod_eq]
 rw[e]
 by_cases h2:v<2147483648
 ·have:v / 2147483648=0:=by omega
  simp[this]
 ·have:v / 2147483648=1:=by omega
  simp[this]
theorem Fl{v:Nat}(h:v<4294967296):v.testBit 31=decide (2147483648<=v):=by
 rw[Nat.testBit_eq_decide_div_mod_eq]
 by_cases h2:v<2147483648
 ·have:v / 2 ^ 31=0:=by omega
  simp[this]; omega
 ·have:v / 2 ^ 31=1:=by omega
  simp[this]; omega
theorem zcg{x y b:Nat}(hx:x<4294967296)(hy:y<4294967296)(hb:b<=1) :
  xR (xR ((x:Int)-y)-b)=(((x+4294967296*(if x<y+b then 1 else 0))-y-b:Nat):Int):=by
 rw[eT,eT]
 split<;>omega
theorem R5{x y b d:Nat}(hx:x<4294967296)(hy:y<4294967296)(hb:b<=1)(hd:d=(x+4294967296*(if x<y+b then 1 else 0))-y-b) :
  wH .u32 (Z6 .u32 (FC .u32 (Fp .u32 (4294967295:Int) x) y) (FC .u32 (Fp .u32 (4294967295:Int) (Fp .u32 x y)) (d:Int))) 31=if x<y+b then 1 else 0:=by
 have OW:d<4294967296:=by rw[hd]; split<;>omega
 have e1:=VQ (x:=4294967295) (y:=x) (by omega) hx
 have h1:4294967295 ^^^ x<4294967296:=Nat.xor_lt_two_pow (n:=32) (by omega) hx
 have e2:=Jr h1 hy
 have h2:(4294967295 ^^^ x) &&& y<4294967296:=Nat.lt_of_le_of_lt Nat.and_le_left h1
 have e3:=VQ hx hy
 have h3:x ^^^ y<4294967296:=Nat.xor_lt_two_pow (n:=32) hx hy
 have e4:=VQ (x:=4294967295) (y:=x ^^^ y) (by omega) h3
 have h4:4294967295 ^^^ (x ^^^ y)<4294967296:=Nat.xor_lt_two_pow (n:=32) (by omega) h3
 have e5:=Jr h4 OW
 have h5:(4294967295 ^^^ (x ^^^ y)) &&& d<4294967296:=Nat.lt_of_le_of_lt Nat.and_le_left h4
 have e6:=ZX h2 h5
 have h6:=Nat.or_lt_two_pow (n:=32) h2 h5
 have ec:(4294967295:Int)=((4294967295:Nat):Int):=rfl
 rw[ec,e1,e2,e3,e4,e5,e6]
 show Int.fdiv _ 2147483648=_
 rw[Int.fdiv_eq_ediv_of_nonneg _ (by omega)]
 have e7:=zdF h6
 have e8:(((((4294967295 ^^^ x) &&& y) ||| ((4294967295 ^^^ (x ^^^ y)) &&& d):Nat):Int)) / 2147483648=(((((4294967295 ^^^ x) &&& y) ||| ((4294967295 ^^^ (x ^^^ y)) &&& d)) / 2147483648:Nat):Int):=by omega
 rw[e8,e7]
 have t1:(4294967295:Nat).testBit 31=true:=by decide
 simp only[Nat.testBit_or,Nat.testBit_and,Nat.testBit_xor,t1,Fl hx,Fl hy,Fl OW]
 by_cases c:x<y+b
 ·rw[if_pos c]at hd ⊢
  by_cases p:2147483648<=x<;>by_cases q:2147483648<=y<;>by_cases r:2147483648<=d<;>simp[p,q,r]<;>omega
 ·rw[if_neg c]at hd ⊢
  by_cases p:2147483648<=x<;>by_cases q:2147483648<=y<;>by_cases r:2147483648<=d<;>simp[p,q,r]<;>omega
end Go.AM.PL
namespace Go.AM.Lf
open PL
@[simp] theorem xn:zk (.int .u32)=(0:Int):=rfl
theorem Ss(l:List Int)(x:Int):nth (l++[x]) ((l++[x]).length-1:Int) 0=x:=by
 rw[HD _ (by simp)]; simp[nth]
theorem wi(a:List Int)(h:zm a)(hl:a.length<=4000000000):(xN a).run=some (zu (nv a)):=by
 have key:(oj a).run=some (zu (nv a)):=by
  unfold oj
  refine vI (λa=>zm a/\a.length<=4000000000) (λa=>a.length) (λa=>zu (nv a)) ?_ ⟨h,hl⟩
  rintro s ⟨h1,h2⟩
  rcases List.eq_nil_or_concat s with rfl | ⟨l,x,rfl⟩
  ·right; simp[iC,ft,ql]
  ·rw[List.concat_eq_append]at *
   have hx:=Ss l x
   have hlen:(l++[x]).length=l.length+1:=by simp
   have hw:zF (((l++[x]).length:Int)-1)=((l++[x]).length:Int)-1:=zA (by omega) (by omega)
   have hIs:(ft (l++[x])).run=some (x != 0):=by
    unfold ft
    rw[zb]
    ·simp only[hw,xn,hx,z7]
     congr 1
     have:(((l++[x]).length:Int)==0)=false:=by simp; omega
     rw[this]; rfl
    ·intro _; rw[hw]; exact⟨by omega,by omega⟩
   unfold iC
   rw[z6 hIs]
   by_cases Ve:x=0
   ·left
    subst Ve
    refine⟨l,?_,⟨(nk.1 h1).1,by omega⟩,by omega,by rw[J2]⟩
    have hc:va (e:=.int .u32) 0 (((l++[(0:Int)]).length:Int)-1) (l++[0])=l:=by
     unfold va; simp
    rw[hw,hc]
    simp only[bne_self_eq_false,Bool.not_false,zj]
    rw[fh _ (by omega) (by omega) (by omega),z7]
   ·right
    have hb:(x != 0)=true:=by simpa using Ve
    rw[hb]
    simp only[Bool.not_true,zg,z7]
    rw[tr h1]
    intro y hy
    simp at hy; omega
 unfold xN
 rw[z6 key,z7]
theorem O2(a:List Int)(hl:a.length<=4000000000):(vo a).run=some a:=by
 unfold vo
 rw[zb]
 ·cases a with
  | nil=>simp
  | cons x a=>simp only[List.length_cons]at hl; simp(disch:=omega)
 ·rintro rfl r hr
  first
  | simpa[T.leads]using hr
  | (obtain⟨_,_,hr⟩:=hr; simpa[T.leads]using hr)
theorem lz(a:List Int)(h:zm a)(hl:a.length<=4000000000):(hO a).run=some (zu (nv a)):=by
 unfold hO
 rw[z6 (wi a h hl),z6 (O2 _ (Nat.le_trans (zw h) hl)),z7]
theorem xF(a:List Int)(h:zm a)(hl:a.length<=4000000000):(qM a).run=some (zu (nv a)):=by
 have key:∀ n:Nat,n<=a.length->nv (a.take n)=nv a->(Qc a (n:Int)).run=some ((zu (nv a)).length:Int)/\(zu (nv a))=a.take (zu (nv a)).length:=by
  intro n
  induction n with
  | zero =>
   intro _ hn
   have h0:nv a=0:=by rw[<- hn]; rfl
   rw[h0,ql]
   refine⟨qz ?_,rfl⟩
   simp[gy]
  | succ n ih =>
   intro hle hn
   have e1:zF (((n+1:Nat):Int)-1)=(n:Int):=by rw[zA (by omega) (by omega)]; omega
   by_cases hx:nth a (n:Int) 0=0
   ·have h2:nv (a.take n)=nv a:=by rw[<- hn,QC (by omega),hx]; simp
    obtain⟨g1,g2⟩:=ih (by omega) h2
    refine⟨?_,g2⟩
    rw[<- g1]
    refine vu ?_
    unfold gy
    simp only[e1,xn,hx]
    rw[zb (λ_=>⟨by omega,by omega⟩)]
    simp
   ·have ht:Wi (a.take (n+1)):=by
     rw[iT _ _ (by omega)]
     intro y hy; simp at hy; rw[<- hy]; exact hx
    have he:=tr (mv h (n+1)) ht
    rw[hn]at he
    have hlen:(zu (nv a)).length=n+1:=by rw[he]; simp; omega
    rw[hlen]
    refine⟨qz ?_,he⟩
    unfold gy
    simp only[e1,xn]
    rw[zb (λ_=>⟨by omega,by omega⟩)]
    simp[hx]
 obtain⟨g1,g2⟩:=key a.length (Nat.le_refl _) (by simp)
 have hle:=zw h
 unfold qM
 rw[z6 g1]
 have hc:va (e:=.int .u32) 0 ((zu (nv a)).length:Int) a=zu (nv a):=by
  unfold va; simp only[Int.toNat_natCast,Int.toNat_zero,List.drop_zero]; exact g2.symm
 simp only[hc]
 rw[fh _ (by omega) (by omega) (by omega)]
 cases hz:zu (nv a)with
 | nil=>simp
 | cons x l =>
  rw[hz]at hle
  simp only[List.length_cons]at hle
  simp(disch:=omega)
theorem yz(n:Nat)(h:n<18446744073709551616):(yC (n:Int)).run=some (zu n):=by
 have e2:xR (wH .u64 (n:Int) 32)=((n / 4294967296:Nat):Int):=by rw[z08 (by omega),eT]; omega
 have e1:xR (n:Int)=((n % 4294967296:Nat):Int):=by rw[eT]; omega
 have h1:zm [((n % 4294967296:Nat):Int),((n / 4294967296:Nat):Int)]:=by
  intro x hx; simp only[List.mem_cons,List.not_mem_nil,or_false]at hx; rcases hx with rfl | rfl<;>omega
 have h2:=wi _ h1 (by simp)
 have h3:nv [((n % 4294967296:Nat):Int),((n / 4294967296:Nat):Int)]=n:=by simp only[db,Hb]; omega
 unfold yC
 rw[uQ _ (by omega),e1,e2,z6 h2,h3,z7]
theorem ow(n:Nat)(h:n<18446744073709551616):(sb (n:Int)).run=some (zu n):=by
 have e2:xR (wH .u64 (n:Int) 32)=((n / 4294967296:Nat):Int):=by rw[z08 (by omega),eT]; omega
 have e1:xR (n:Int)=((n % 4294967296:Nat):Int):=by rw[eT]; omega
 have h1:zm [((n % 4294967296:Nat):Int),((n / 4294967296:Nat):Int)]:=by
  intro x hx; simp only[List.mem_cons,List.not_mem_nil,or_false]at hx; rcases hx with rfl | rfl<;>omega
 have h2:=xF _ h1 (by simp)
 have h3:nv [((n % 4294967296:Nat):Int),((n / 4294967296:Nat):Int)]=n:=by simp only[db,Hb]; omega
 unfold sb
 rw[uQ _ (by omega),e1,e2,z6 h2,h3,z7]
theorem pz(a b:List Int)(ha:zm a)(hb:zm b)(la:a.length<=1000000000)(lb:b.length<=1000000000):(mz a b).run=some (so (nv a) (nv b)):=by
 unfold mz
 rw[z6 (wi a ha (by omega)),z6 (wi b hb (by omega))]
 have qa:=zw ha
 have qb:=zw hb
 generalize nv a=A at *
 generalize nv b=B at *
 by_cases hl:(zu A).length=(zu B).length
 ·rw[hl,bne_self_eq_false,zg]
  have key:=Cp (r:=fm (zu A) (zu B)) (zu A) (zu B) (zn A) (zn B) hl (λi hi => ?_) ?_
  ·rw[<- hl,zA (by omega) (by omega)]
   unfold UY
   rw[z6 key,zW,zW]
   unfold so
   by_cases p:A<B
   ·simp[p]
   ·by_cases q:B<A<;>simp[p,q]
  ·have e:zF ((i:Int)-1)=(i:Int)-1:=zA (by omega) (by omega)
   unfold fm
   have KB:i<(zu B).length:=by omega
   have x1:=wR (zn A) i
   have x2:=wR (zn B) i
   rcases Nat.lt_trichotomy (lm (zu A) i) (lm (zu B) i)with c | c | c
   ·have c2:¬ (lm (zu A) i=lm (zu B) i):=by omega
    simp(disch:=omega) [e,x1,x2,c,c2,hi,KB]<;>omega
   ·simp(disch:=omega) [e,x1,x2,c,hi,KB]
   ·have c2:¬ (lm (zu A) i=lm (zu B) i):=by omega
    have c3:¬ (lm (zu A) i<lm (zu B) i):=by omega
    simp(disch:=omega) [e,x1,x2,c,c2,c3,hi,KB]<;>omega
  ·simp[fm]
 ·rw[za (by simp; omega)]
  unfold so
  by_cases c:(zu A).length<(zu B).length
  ·have:=lg c
   simp[c,this]
  ·have h2:=lg (show(zu B).length<(zu A).length by omega)
   have h3:¬ A<B:=by omega
   simp[c,h2,h3]
theorem Zf(a b:List Int)(ha:zm a)(hb:zm b)(la:a.length<=1000000000)(lb:b.length<=1000000000):(oQ a b).run=some (so (nv a) (nv b)):=by
 unfold oQ
 rw[z6 (xF a ha (by omega)),z6 (xF b hb (by omega))]
 have qa:=zw ha
 have qb:=zw hb
 generalize nv a=A at *
 generalize nv b=B at *
 by_cases hl:(zu A).length=(zu B).length
 ·rw[hl,bne_self_eq_false,zg]
  have key:=Cp (r:=ct (zu A) (zu B)) (zu A) (zu B) (zn A) (zn B) hl (λi hi => ?_) ?_
  ·rw[<- hl,zA (by omega) (by omega)]
   unfold Wc
   rw[z6 key,zW,zW]
   unfold so
   by_cases p:A<B
   ·simp[p]
   ·by_cases q:B<A<;>simp[p,q]
  ·have e:zF ((i:Int)-1)=(i:Int)-1:=zA (by omega) (by omega)
   unfold ct
   have KB:i<(zu B).length:=by omega
   have x1:=wR (zn A) i
   have x2:=wR (zn B) i
   rcases Nat.lt_trichotomy (lm (zu A) i) (lm (zu B) i)with c | c | c
   ·have c2:¬ (lm (zu A) i=lm (zu B) i):=by omega
    simp(disch:=omega) [e,x1,x2,c,c2,hi,KB]<;>omega
   ·simp(disch:=omega) [e,x1,x2,c,hi,KB]
   ·have c2:¬ (lm (zu A) i=lm (zu B) i):=by omega
    have c3:¬ (lm (zu A) i<lm (zu B) i):=by omega
    simp(disch:=omega) [e,x1,x2,c,c2,c3,hi,KB]<;>omega
  ·simp[ct]
 ·rw[za (by simp; omega)]
  unfold so
  by_cases c:(zu A).length<(zu B).length
  ·have:=lg c
   simp[c,this]
  ·have h2:=lg (show(zu B).length<(zu A).length by omega)
   have h3:¬ A<B:=by omega
   simp[c,h2,h3]
theorem yU(a:List Int)(ha:zm a)(i:Nat):(gq a (i:Int)).run=some (lm a i:Int):=by
 unfold gq
 have:=wk ha i
 by_cases h:i<a.length
 ·rw[za (by simpa using h),qp _ (by omega) (by omega),z7,xn,wR ha,qm (by omega) (by omega)]
 ·rw[z8 (by simpa using h),z7,Lw (by omega)]; rfl
theorem z1E(x l P v:Nat):(x*4294967296+l)*P+v=x*(P*4294967296)+(v+P*l):=by grind
theorem XY(a:List Int)(ha:zm a)(la:a.length<=1000000000):(ZP a).run=some (if nv a<18446744073709551616 then((nv a:Int),true)else(0,false)):=by
 unfold ZP
 rw[z6 (xF a ha (by omega))]
 generalize nv a=A
 have h2 := @zR A 2
 have hp:(4294967296:Nat) ^ 2=18446744073709551616:=by decide
 rw[hp]at h2
 by_cases c:A<18446744073709551616
 ·have hl:=h2.2 c
  rw[if_pos c,z8 (by simp; omega)]
  have h3:=kt (n:=A)
  have key:∀ n:Nat,n<=(zu A).length->∀ x:Nat,x<4294967296 ^ (2-n)->(Jo (zu A) ((x:Int),(n:Int)-1)).run=some ((x*4294967296 ^ n+nv ((zu A).take n):Nat):Int):=by
   intro n
   induction n with
   | zero =>
    intro _ x hx
    refine qz ?_
    simp[eC]
   | succ n ih =>
    intro hn x hx
    have hx1:x<4294967296:=by
     have:(4294967296:Nat) ^ (2-(n+1))<=4294967296 ^ 1:=Nat.pow_le_pow_right (by omega) (by omega)
     omega
    have e1:((n+1:Nat):Int)-1=(n:Int):=by omega
    have e2:zF ((n:Int)-1)=(n:Int)-1:=zA (by omega) (by omega)
    have fy:=wk (zn A) n
    have e3:=BE (x:=(x:Int)) (y:=(lm (zu A) n:Int)) (by omega) (by omega) (by omega) (by omega)
    have hs:(eC (zu A) ((x:Int),(n:Int))).run=some (.inl (((x*4294967296+lm (zu A) n:Nat):Int),(n:Int)-1)):=by
     unfold eC
     simp(disch:=omega) [wR (zn A),e2,e3]
    rw[e1]
    refine(vu hs).trans ?_
    have JF:n+1<=2:=by omega
    have qu:x*4294967296+lm (zu A) n<4294967296 ^ (2-n):=by
     have e4:(4294967296:Nat) ^ (2-n)=4294967296 ^ (2-(n+1))*4294967296:=by
      rw[<- Nat.pow_succ]; congr 1; omega
     rw[e4]
     have:=Nat.mul_le_mul_right 4294967296 (show x+1<=4294967296 ^ (2-(n+1))from hx)
     omega
    refine(ih (by omega) _ qu).trans ?_
    rw[zY,Nat.pow_succ]
    have e5:=z1E x (lm (zu A) n) (4294967296 ^ n) (nv ((zu A).take n))
    rw[e5]
  have:=key (zu A).length (Nat.le_refl _) 0 (Nat.pow_pos (by omega))
  rw[List.take_length,zW]at this
  rw[zA (by omega) (by omega)]
  simp only[Nat.zero_mul,Nat.zero_add,Int.natCast_zero]at this
  rw[z6 (by simpa using this),z7]
 ·rw[if_neg c,za (by simp; omega),z7]
theorem Yf{c x y:Nat}(hc:c<=1)(hx:x<4294967296)(hy:y<4294967296):zO (zO ((c:Int)+x)+y)=((c+x+y:Nat):Int):=by
 rw[qm (x:=(c:Int)+x) (by omega) (by omega),qm (by omega) (by omega)]; omega
theorem JR(n:Nat):xR (n:Int)=((n % 4294967296:Nat):Int):=by rw[eT]; omega
theorem X2(n:Nat):wH .u64 (n:Int) 32=((n / 4294967296:Nat):Int):=by rw[z08 (by omega)]; omega
theorem UA{P X c a b p q:Nat}(h:X+c*P=a+b):X+P*((c+p+q) % 4294967296)+(c+p+q) / 4294967296*(P*4294967296)=(a+P*p)+(b+P*q):=by
 have e:(c+p+q)=(c+p+q) % 4294967296+4294967296*((c+p+q) / 4294967296):=by omega
 generalize (c+p+q) % 4294967296=lo at *
 generalize (c+p+q) / 4294967296=hi at *
 have e2:P*(c+p+q)=P*(lo+4294967296*hi):=by rw[e]
 simp only[Nat.mul_add]at e2
 rw[Nat.mul_comm c P]at h
 have e3:hi*(P*4294967296)=P*(4294967296*hi):=by rw[Nat.mul_comm hi,Nat.mul_assoc]
 omega
theorem DL(a b:List Int)(ha:zm a)(hb:zm b)(la:a.length<=1000000000)(lb:b.length<=1000000000):(WQ a b).run=some (zu (nv a+nv b)):=by
 have qa:=zw ha
 have qb:=zw hb
 unfold WQ
 rw[z6 (wi a ha (by omega)),z6 (wi b hb (by omega))]
 generalize nv a=A at *
 generalize nv b=B at *
 obtain⟨x,y,hxy,lx,ly,le,hsw,zgb⟩:∃ x y:List Int,(nv x+nv y=A+B)/\zm x/\zm y/\(y.length<=x.length/\x.length<=1000000000) /\
   (bif decide (((zu A).length:Int)<((zu B).length:Int))then zu B else zu A)=x/\(bif decide (((zu A).length:Int)<((zu B).length:Int))then zu A else zu B)=y:=by
  by_cases c:(zu A).length<(zu B).length
  ·exact⟨zu B,zu A,by simp; omega,zn _,zn _,⟨by omega,by omega⟩,by simp[c],by simp[c]⟩
  ·exact⟨zu A,zu B,by simp,zn _,zn _,⟨by omega,by omega⟩,by simp[c],by simp[c]⟩
 rw[hsw,zgb]
 obtain⟨le1,le2⟩:=le
 have ew:zF ((x.length:Int)+1)=((x.length+1:Nat):Int):=by rw[zA (by omega) (by omega)]; omega
 dsimp only; rw[ew]
 simp only[Int.toNat_natCast,List.length_replicate]
 have loop:∃ r:Int×List Int,(Jn x y x (x.length:Int) (0,0,List.replicate (x.length+1) 0)).run=some r/\∃ c:Nat,r.1=(c:Int)/\c<=1/\zm r.2/\r.2.length=x.length+1/\nv (r.2.take x.length)+c*4294967296 ^ x.length=nv x+nv y:=by
  refine T.qI (λs:Int×Int×List Int=>∃ (c i:Nat),s.1=(c:Int)/\s.2.1=(i:Int)/\c<=1/\i<=x.length/\zm s.2.2/\s.2.2.length=x.length+1/\nv (s.2.2.take i)+c*4294967296 ^ i=nv (x.take i)+nv (y.take i))
   (λs=>x.length-s.2.1.toNat) _ ?_ ⟨0,0,rfl,rfl,by omega,by omega,xp _,by simp,by simp⟩
  rintro⟨_,_,xs⟩ ⟨c,i,rfl,rfl,hc,hi,hl,hn,hv⟩
  simp only at hl hn hv ⊢
  by_cases qu:i<x.length
  ·left
   have hx:=wk lx i
   have hy:=wk ly i
   have zgl:(bif decide ((i:Int)<(y.length:Int))then zO (zO ((c:Int)+zO (lm x i:Int))+zO (nth y (i:Int) 0))else zO ((c:Int)+zO (lm x i:Int)))=((c+lm x i+lm y i:Nat):Int):=by
    rw[wR ly,qm (x:=(lm x i:Int)) (by omega) (by omega),qm (x:=(lm y i:Int)) (by omega) (by omega)]
    by_cases q:i<y.length
    ·rw[show decide ((i:Int)<(y.length:Int))=true by simpa using q,cond_true,Yf hc hx hy]
    ·rw[show decide ((i:Int)<(y.length:Int))=false by simpa using q,cond_false,Lw (a:=y) (by omega),qm (by omega) (by omega)]; omega
   have ei:zF ((i:Int)+1)=((i+1:Nat):Int):=by rw[zA (by omega) (by omega)]; omega
   refine⟨((((c+lm x i+lm y i) / 4294967296:Nat):Int),((i+1:Nat):Int),xs.set i (((c+lm x i+lm y i) % 4294967296:Nat):Int)),?_,⟨_,i+1,rfl,rfl,by omega,by omega,dI hl _ (by omega) (by omega),by simpa using hn,?_⟩,by simp; omega⟩
   ·unfold nf
    simp only[xn,wR lx,zgl,JR,X2,ei]
    simp(disch:=omega) [qu,hn]
    rw[zb (λhq=>⟨by omega,by omega⟩)]
    simp(disch:=omega) [qu,hn]
   ·simp only
    rw[uJ _ (by omega),zY,zY,Nat.pow_succ,Int.toNat_natCast]
    exact UA hv
  ·right
   have XH:i=x.length:=by omega
   subst XH
   refine⟨((c:Int),xs),?_,c,rfl,hc,hl,hn,?_⟩
   ·unfold nf
    simp
   ·simpa[List.take_length,qC le1]using hv
 obtain⟨⟨_,xs⟩,hr,c,rfl,hc,hl,hn,hv⟩:=loop
 simp only at hl hn hv
 rw[T.run_mk _ (by omega) (by omega) (by omega) (by omega),zJ _ rfl rfl rfl,zb rfl,z6 hr]
 simp only[Int.toNat_natCast,Nat.zero_add,List.drop_zero,JR]
 rw[qp _ (by omega) (by omega),jG _ rfl (by omega),zb rfl]
 have e1:(xs.set x.length ((c % 4294967296:Nat):Int)).take xs.length=xs.set x.length ((c % 4294967296:Nat):Int):=List.take_of_length_le (by simp)
 rw[e1]
 have h3:=wi (xs.set x.length ((c % 4294967296:Nat):Int)) (dI hl _ (by omega) (by omega)) (by simp; omega)
 rw[z6 h3,z7]
 have e2:=uJ (a:=xs) (i:=x.length) ((c % 4294967296:Nat):Int) (by omega)
 rw[qC (by simp; omega)]at e2
 rw[e2,Int.toNat_natCast,Nat.mod_eq_of_lt (by omega),Nat.mul_comm,hv,hxy]
theorem i1(i:Nat)(h:i<=4000000000):zF ((i:Int)+1)=((i+1:Nat):Int):=by rw[zA (by omega) (by omega)]; omega
theorem im1(i:Nat)(h:i<=4000000000):zF (((i+1:Nat):Int)-1)=(i:Int):=by rw[zA (by omega) (by omega)]; omega
theorem tT{xs:List Int}(h:zm xs){x:Int}(h0:0<=x)(h1:x<4294967296):zm (xs++[x]):=nk.2 ⟨h,λy hy=>by simp at hy; subst hy; exact⟨h0,h1⟩⟩
theorem Hr(xs:List Int)(x:Int):nv (xs++[x])=nv xs+4294967296 ^ xs.length*x.toNat:=by rw[yR]; simp
theorem HO(a b:List Int)(ha:zm a)(hb:zm b)(la:a.length<=1000000000)(lb:b.length<=1000000000):(Qh a b).run=some (zu (nv a+nv b)):=by
 have hm:∃ m:Nat,m=max a.length b.length:=⟨_,rfl⟩
 obtain⟨m,hm⟩:=hm
 have em:zF (mP (a.length:Int) (b.length:Int)+1)=((m+1:Nat):Int):=by
  have:mP (a.length:Int) (b.length:Int)=(m:Int):=by unfold mP; split<;>omega
  rw[this,i1 m (by omega)]
 have LF:nv a+nv b<4294967296 ^ (m+1):=by
  have h1:=yN ha
  have h2:=yN hb
  have h3:(4294967296:Nat) ^ a.length<=4294967296 ^ m:=Nat.pow_le_pow_right (by omega) (by omega)
  have h4:(4294967296:Nat) ^ b.length<=4294967296 ^ m:=Nat.pow_le_pow_right (by omega) (by omega)
  rw[Nat.pow_succ]; omega
 have loop:∃ r:List Int,(XR a b (0,0,[])).run=some r/\zm r/\r.length=m+1/\nv r=nv a+nv b:=by
  refine T.qI (λs:Int×Int×List Int=>∃ (c i:Nat),s.1=(c:Int)/\s.2.1=(i:Int)/\c<=1/\i<=m+1/\zm s.2.2/\s.2.2.length=i/\nv s.2.2+c*4294967296 ^ i=nv (a.take i)+nv (b.take i))
   (λs=>m+1-s.2.1.toNat) _ ?_ ⟨0,0,rfl,rfl,by omega,by omega,bA,rfl,by simp⟩
  rintro⟨_,_,xs⟩ ⟨c,i,rfl,rfl,hc,hi,hl,hn,hv⟩
  simp only at hl hn hv ⊢
  by_cases qu:i<m+1
  ·left
   have hx:=wk ha i
   have hy:=wk hb i
   refine⟨((((c+lm a i+lm b i) / 4294967296:Nat):Int),((i+1:Nat):Int),xs++[(((c+lm a i+lm b i) % 4294967296:Nat):Int)]),?_,⟨_,i+1,rfl,rfl,by omega,by omega,tT hl (by omega) (by omega),by simp; omega,?_⟩,by simp; omega⟩
   ·unfold fS
    simp only[em,y5]
    rw[if_pos (by simp; omega),z6 (yU a ha i),z6 (yU b hb i)]
    simp only[Yf hc hx hy,JR,X2,i1 i (by omega)]
    simp(disch:=omega) [hn]
   ·simp only
    rw[Hr,hn,zY,zY,Nat.pow_succ,Int.toNat_natCast]
    exact UA hv
  ·right
   have XH:i=m+1:=by omega
   subst XH
   refine⟨xs,?_,hl,hn,?_⟩
   ·unfold fS
    simp[em]
   ·rw[qC (by omega),qC (by omega)]at hv
    have:c=0:=by
     rcases Nat.eq_zero_or_pos c with h | h
     ·exact h
     ·have:c=1:=by omega
      subst this; omega
    subst this; omega
 obtain⟨xs,hr,hl,hn,hv⟩:=loop
 unfold Qh
 simp(disch:=omega) only[zJ,zo,z6 hr]
 simp only[List.drop_zero,Nat.zero_add,List.take_length]
 rw[zb rfl,z6 (xF xs hl (by omega)),hv,z7]
theorem Cb{P X Y c x y:Nat}{Z:Nat}(h:X+Y=Z+c*P)(hc:c<=1)(hx:x<4294967296)(hy:y<4294967296) :
  X+P*((x+4294967296*(if x<y+c then 1 else 0))-(y+c))+(Y+P*y)=Z+P*x+(if x<y+c then 1 else 0)*(P*4294967296):=by
 have key:∀ k:Nat,y+c<=x+4294967296*k->X+P*(x+4294967296*k-(y+c))+(Y+P*y)=Z+P*x+k*(P*4294967296):=by
  intro k hk
  obtain⟨d,hd⟩:∃ d,d=x+4294967296*k-(y+c):=⟨_,rfl⟩
  have hd2:d+(y+c)=x+4294967296*k:=by omega
  rw[<- hd]
  have e2:P*(d+(y+c))=P*(x+4294967296*k):=by rw[hd2]
  simp only[Nat.mul_add]at e2
  have e3:k*(P*4294967296)=P*(4294967296*k):=by rw[Nat.mul_comm k,Nat.mul_assoc]
  rw[Nat.mul_comm c P]at h
  omega
 split
 ·exact key 1 (by omega)
 ·exact key 0 (by omega)
theorem H3(a b:List Int)(ha:zm a)(hb:zm b)(la:a.length<=1000000000)(lb:b.length<=1000000000):(Qw a b).run=some (if nv a<nv b then([],false)else(zu (nv a-nv b),true)):=by
 unfold Qw
 rw[z6 (Zf a b ha hb la lb)]
 by_cases hlt0:nv a<nv b
 ·rw[if_pos hlt0]; simp[so,hlt0]
 rw[if_neg hlt0,z8 (by unfold so; rw[if_neg hlt0]; split<;>simp)]
 have loop:∃ r:List Int,(Wl a b (0,0,[])).run=some r/\zm r/\r.length=a.length/\nv r+nv b=nv a:=by
  refine T.qI (λs:Int×Int×List Int=>∃ (c i:Nat),s.1=(c:Int)/\s.2.1=(i:Int)/\c<=1/\i<=a.length/\zm s.2.2/\s.2.2.length=i/\nv s.2.2+nv (b.take i)=nv (a.take i)+c*4294967296 ^ i)
   (λs=>a.length-s.2.1.toNat) _ ?_ ⟨0,0,rfl,rfl,by omega,by omega,bA,rfl,by simp⟩
  rintro⟨_,_,xs⟩ ⟨c,i,rfl,rfl,hc,hi,hl,hn,hv⟩
  simp only at hl hn hv ⊢
  by_cases qu:i<a.length
  ·left
   have hx:=wk ha i
   have hy:=wk hb i
   refine⟨(((if lm a i<lm b i+c then 1 else 0:Nat):Int),((i+1:Nat):Int),xs++[(((lm a i+4294967296*(if lm a i<lm b i+c then 1 else 0))-(lm b i+c):Nat):Int)]),?_,⟨_,i+1,rfl,rfl,by split<;>omega,by omega,tT hl (by omega) (by split<;>omega),by simp; omega,?_⟩,by simp; omega⟩
   ·unfold ij
    have e0:zO ((lm b i:Int)+(c:Int))=((lm b i+c:Nat):Int):=by rw[qm (by omega) (by omega)]; omega
    simp only[y5]
    rw[if_pos (by simpa using qu),z6 (yU a ha i),z6 (yU b hb i)]
    simp only[e0,i1 i (by omega)]
    have e1:(bif decide ((lm a i:Int)<((lm b i+c:Nat):Int))then(1:Int)else 0)=((if lm a i<lm b i+c then 1 else 0:Nat):Int):=by
     by_cases q:lm a i<lm b i+c
     ·rw[if_pos q,show decide ((lm a i:Int)<((lm b i+c:Nat):Int))=true from decide_eq_true (by omega)]; rfl
     ·rw[if_neg q,show decide ((lm a i:Int)<((lm b i+c:Nat):Int))=false from decide_eq_false (by omega)]; rfl
    have e2:xR (zO ((bif decide ((lm a i:Int)<((lm b i+c:Nat):Int))then zO ((lm a i:Int)+4294967296)else(lm a i:Int))-((lm b i+c:Nat):Int)))=(((lm a i+4294967296*(if lm a i<lm b i+c then 1 else 0))-(lm b i+c):Nat):Int):=by
     by_cases q:lm a i<lm b i+c
     ·rw[if_pos q,show decide ((lm a i:Int)<((lm b i+c:Nat):Int))=true from decide_eq_true (by omega),cond_true,qm (x:=(lm a i:Int)+4294967296) (by omega) (by omega),qm (by omega) (by omega),ZQ (by omega) (by omega)]; omega
     ·rw[if_neg q,show decide ((lm a i:Int)<((lm b i+c:Nat):Int))=false from decide_eq_false (by omega),cond_false,qm (by omega) (by omega),ZQ (by omega) (by omega)]; omega
    simp only[e1,e2]
    simp(disch:=omega) [hn]
   ·simp only
    rw[Hr,hn,zY,zY,Nat.pow_succ,Int.toNat_natCast]
    exact Cb hv hc hx hy
  ·right
   have XH:i=a.length:=by omega
   subst XH
   refine⟨xs,?_,hl,hn,?_⟩
   ·unfold ij
    simp
   ·rw[List.take_length]at hv
    have h1:=kS b (min a.length b.length) (by omega)
    have z8H:=yN ha
    have WZ:nv (b.take a.length)=nv b:=by
     by_cases q:b.length<=a.length
     ·exact qC q
     ·rw[show min a.length b.length=a.length by omega]at h1
      rcases Nat.eq_zero_or_pos (nv (b.drop a.length))with z | z
      ·rw[z]at h1; omega
      ·have:=Nat.mul_le_mul_left (4294967296 ^ a.length) z
       omega
    have V9:=yN hl
    rw[hn]at V9
    rw[WZ]at hv
    have:c=0:=by
     rcases Nat.eq_zero_or_pos c with h | h
     ·exact h
     ·have:c=1:=by omega
      subst this; omega
    subst this; omega
 obtain⟨xs,hr,hl,hn,hv⟩:=loop
 simp(disch:=omega) only[zJ,zo,z6 hr]
 simp only[List.drop_zero,Nat.zero_add,List.take_length]
 rw[zb rfl,z6 (xF xs hl (by omega)),z7,show nv xs=nv a-nv b by omega]
theorem lH{x y:Nat}(hx:x<4294967296)(hy:y<4294967296):x*y<=18446744065119617025:=Nat.mul_le_mul (show x<=4294967295 by omega) (show y<=4294967295 by omega)
theorem mac{c v w o:Nat}(hc:c<4294967296)(hv:v<4294967296)(hw:w<4294967296)(ho:o<4294967296) :
  zO ((c:Int)+zO (zO ((v:Int)*(w:Int))+(o:Int)))=((c+v*w+o:Nat):Int)/\c+v*w+o<18446744073709551616/\(c+v*w+o) / 4294967296<4294967296:=by
 have h:=lH hv hw
 have e:(v:Int)*(w:Int)=((v*w:Nat):Int):=by simp
 rw[e]
 generalize v*w=z at *
 rw[qm (x:=(z:Int)) (by omega) (by omega),qm (x:=(z:Int)+o) (by omega) (by omega),qm (by omega) (by omega)]
 omega
theorem zhN{c v w o:Nat}(hc:c<4294967296)(hv:v<4294967296)(hw:w<4294967296)(ho:o<4294967296) :
  zO (zO ((c:Int)+zO ((v:Int)*(w:Int)))+(o:Int))=((c+v*w+o:Nat):Int):=by
 have h:=lH hv hw
 have e:(v:Int)*(w:Int)=((v*w:Nat):Int):=by simp
 rw[e]
 generalize v*w=z at *
 rw[qm (x:=(z:Int)) (by omega) (by omega),qm (x:=(c:Int)+z) (by omega) (by omega),qm (by omega) (by omega)]
 omega
theorem BV{P Q X Z c v w o W t:Nat}(h:X+c*P=Z+Q*(v*W))(hP:P=Q*t) :
  X+P*((c+v*w+o) % 4294967296)+(c+v*w+o) / 4294967296*(P*4294967296)=Z+P*o+Q*(v*(W+t*w)):=by
 have e:(c+v*w+o)=(c+v*w+o) % 4294967296+4294967296*((c+v*w+o) / 4294967296):=by omega
 generalize (c+v*w+o) % 4294967296=lo at *
 generalize (c+v*w+o) / 4294967296=hi at *
 have e2:P*(c+v*w+o)=P*(lo+4294967296*hi):=by rw[e]
 have e3:X+P*lo+hi*(P*4294967296)=X+P*(lo+4294967296*hi):=by grind
 rw[e3,<- e2]
 have e4:X+P*(c+v*w+o)=(X+c*P)+P*(v*w)+P*o:=by grind
 rw[e4,h,hP]
 grind
theorem yB(xs:List Int)(i:Nat)(x:Int)(j:Nat)(h:i≠j):lm (xs.set i x) j=lm xs j:=by
 by_cases hi:i<xs.length
 ·rw[Xt hi,if_neg h]
 ·rw[List.set_eq_of_length_le (by omega)]
theorem KM(b:List Int)(hb:zm b)(lb:b.length<=1000000000)(P:List Int)(hP:zm P)(i:Nat)(hi:i<=1000000000)(hPl:i+b.length<P.length)(v:Nat)(hv:v<4294967296)(x3:List Int)(x4:Int) :
  ∃ r:Int×List Int,(JI b (i:Int) (v:Int) x3 x4 (i:Int) b (b.length:Int) (0,0,P)).run=some r/\∃ c:Nat,r.1=(c:Int)/\c<4294967296/\zm r.2/\r.2.length=P.length /\
   nv (r.2.take (i+b.length))+c*4294967296 ^ (i+b.length)=nv (P.take (i+b.length))+4294967296 ^ i*(v*nv b):=by
 refine T.qI (λs:Int×Int×List Int=>∃ (c k:Nat),s.1=(c:Int)/\s.2.1=(k:Int)/\c<4294967296/\k<=b.length/\zm s.2.2/\s.2.2.length=P.length/\(∀ j,i+k<=j->lm s.2.2 j=lm P j) /\
   nv (s.2.2.take (i+k))+c*4294967296 ^ (i+k)=nv (P.take (i+k))+4294967296 ^ i*(v*nv (b.take k)))
  (λs=>b.length-s.2.1.toNat) _ ?_ ⟨0,0,rfl,rfl,by omega,by omega,hP,rfl,λ_ _=>rfl,by simp⟩
 rintro⟨_,_,xs⟩ ⟨c,k,rfl,rfl,hc,hk,hl,hn,hj,Qa⟩
 simp only at hl hn hj Qa ⊢
 by_cases qu:k<b.length
 ·left
  have hw:=wk hb k
  have ho:=wk hl (i+k)
  obtain⟨m1,m2,m3⟩:=mac hc hv hw ho
  have eik:zF ((i:Int)+(k:Int))=((i+k:Nat):Int):=by rw[zA (by omega) (by omega)]; omega
  refine⟨((((c+v*lm b k+lm xs (i+k)) / 4294967296:Nat):Int),((k+1:Nat):Int),xs.set (i+k) (((c+v*lm b k+lm xs (i+k)) % 4294967296:Nat):Int)),?_,⟨_,k+1,rfl,rfl,m3,by omega,dI hl _ (by omega) (by omega),by simpa using hn,λj h=>by simp only; rw[yB _ _ _ _ (by omega),hj j (by omega)],?_⟩,by simp; omega⟩
  ·unfold nD
   have ev:zO (v:Int)=v:=qm (by omega) (by omega)
   have ew:zO (lm b k:Int)=lm b k:=qm (by omega) (by omega)
   have eo:zO (lm xs (i+k):Int)=lm xs (i+k):=qm (by omega) (by omega)
   simp only[xn,eik,Int.toNat_natCast,Nat.zero_add,wR hb,jr hl,ev,ew,eo,m1,JR,X2,i1 k (by omega)]
   simp(disch:=omega) [qu,hn]
  ·simp only
   rw[show i+(k+1)=(i+k)+1 by omega,uJ _ (by omega),zY,zY,Nat.pow_succ,Int.toNat_natCast,<- hj (i+k) (by omega)]
   exact BV Qa (Nat.pow_add _ _ _)
 ·right
  have:k=b.length:=by omega
  subst this
  refine⟨((c:Int),xs),?_,c,rfl,hc,hl,hn,?_⟩
  ·unfold nD
   simp
  ·simpa[List.take_length]using Qa
theorem row_step{T V c P A Bn Q a:Nat}(h:V+c*P=T+Q*(a*Bn))(hT:T=A*Bn):V+P*c=(A+Q*a)*Bn:=by
 have:V+P*c=V+c*P:=by rw[Nat.mul_comm]
 rw[this,h,hT]; grind
theorem oP(a b:List Int)(ha:zm a)(hb:zm b)(la:a.length<=1000000000)(lb:b.length<=1000000000):(rU a b).run=some (zu (nv a*nv b)):=by
 have qa:=zw ha
 have qb:=zw hb
 unfold rU
 rw[z6 (wi a ha (by omega)),z6 (wi b hb (by omega))]
 generalize nv a=A at *
 generalize nv b=B at *
 have hx:=zn A
 have hy:=zn B
 have hxn:=zW A
 have hyn:=zW B
 generalize zu A=x at *
 generalize zu B=y at *
 have ew:zF ((x.length:Int)+(y.length:Int))=((x.length+y.length:Nat):Int):=by rw[zA (by omega) (by omega)]; omega
 rw[ew]
 simp only[Int.toNat_natCast,List.length_replicate]
 have loop:∃ r:List Int,(VW y x (x.length:Int) (0,List.replicate (x.length+y.length) 0)).run=some r/\zm r/\r.length=x.length+y.length/\nv r=A*B:=by
  refine T.qI (λs:Int×List Int=>∃ i:Nat,s.1=(i:Int)/\i<=x.length/\zm s.2/\s.2.length=x.length+y.length/\nv (s.2.take (i+y.length))=nv (x.take i)*B)
   (λs=>x.length-s.1.toNat) _ ?_ ⟨0,rfl,by omega,xp _,by simp,by simp[List.take_replicate]⟩
  rintro⟨_,xs⟩ ⟨i,rfl,hi,hl,hn,hv⟩
  simp only at hl hn hv ⊢
  by_cases qu:i<x.length
  ·left
   have JY:=wk hx i
   obtain⟨⟨_,ys⟩,hr,c,rfl,hc,fy,JF,Qa⟩:=KM y hy (by omega) xs hl i (by omega) (by omega) (lm x i) JY x (x.length:Int)
   simp only at fy JF Qa
   have eik:zF ((i:Int)+(y.length:Int))=((i+y.length:Nat):Int):=by rw[zA (by omega) (by omega)]; omega
   refine⟨(((i+1:Nat):Int),ys.set (i+y.length) (c:Int)),?_,⟨i+1,rfl,by omega,dI fy _ (by omega) (by omega),by simp; omega,?_⟩,by simp; omega⟩
   ·unfold mo
    have ec:xR (c:Int)=c:=ZQ (by omega) (by omega)
    simp only[y5,xn,wR hx,eik,Int.toNat_natCast,Nat.zero_add,ec,i1 i (by omega)]
    rw[if_pos (by simpa using qu),qp _ (by omega) (by omega),zJ _ rfl rfl rfl,zb rfl,z6 hr]
    simp(disch:=omega) [JF]
   ·simp only
    rw[show i+1+y.length=(i+y.length)+1 by omega,uJ _ (by omega),zY,Int.toNat_natCast]
    rw[hyn]at Qa
    exact row_step Qa hv
  ·right
   have:i=x.length:=by omega
   subst this
   refine⟨xs,?_,hl,hn,?_⟩
   ·unfold mo
    simp
   ·rw[qC (by omega),List.take_length,hxn]at hv; exact hv
 obtain⟨xs,hr,hl,hn,hv⟩:=loop
 rw[T.run_mk _ (by omega) (by omega) (by omega) (by omega),zJ _ rfl rfl rfl,zb rfl,z6 hr]
 simp only[Nat.zero_add,List.drop_zero,List.take_length]
 rw[zb rfl,z6 (wi xs hl (by omega)),z7,hv]
theorem NH{N P Q X' X Z c v w o W t:Nat}(hX:X'+P*o=X+P*((c+v*w+o) % 4294967296))(h:X+c*P=Z+Q*(v*W))(hP:P=Q*t) :
  X'+(c+v*w+o) / 4294967296*(P*4294967296)=Z+Q*(v*(W+t*w)):=by
 have:=BV (P:=P) (Q:=Q) (X:=X) (Z:=Z) (c:=c) (v:=v) (w:=w) (o:=o) (W:=W) (t:=t) h hP
 omega
theorem VB(a b:List Int)(ha:zm a)(hb:zm b)(la:a.length<=1000000000)(lb:b.length<=1000000000)(P:List Int)(hP:zm P)(i:Nat)(hi:i<a.length)(hPl:P.length=a.length+b.length)
  (hbd:nv P+4294967296 ^ i*(lm a i*nv b)<4294967296 ^ (a.length+b.length)) :
  ∃ r:List Int,(W3 a b (i:Int) (0,0,P)).run=some r/\zm r/\r.length=P.length/\nv r=nv P+4294967296 ^ i*(lm a i*nv b):=by
 have hv:=wk ha i
 refine T.qI (λs:Int×Int×List Int=>∃ (c k:Nat),s.1=(c:Int)/\s.2.1=(k:Int)/\c<4294967296/\i+k<=a.length+b.length/\zm s.2.2/\s.2.2.length=P.length /\
   nv s.2.2+c*4294967296 ^ (i+k)=nv P+4294967296 ^ i*(lm a i*nv (b.take k)))
  (λs=>a.length+b.length-s.2.1.toNat) _ ?_ ⟨0,0,rfl,rfl,by omega,by omega,hP,rfl,by simp⟩
 rintro⟨_,_,xs⟩ ⟨c,k,rfl,rfl,hc,hk,hl,hn,Qa⟩
 simp only at hl hn Qa ⊢
 have eik:zF ((i:Int)+(k:Int))=((i+k:Nat):Int):=by rw[zA (by omega) (by omega)]; omega
 by_cases hgo:k<b.length\/0<c
 ·have eg:(decide ((k:Int)<(b.length:Int))||decide ((0:Int)<(c:Int)))=true:=by simpa using hgo
  by_cases hbr:a.length+b.length<=i+k
  ·right
   refine⟨xs,?_,hl,hn,?_⟩
   ·unfold cn
    simp only[eg,eik,zj,hn,hPl]
    rw[za (by simpa using(by omega))]
    simp(disch:=omega)
   ·rw[qC (by omega)]at Qa
    have V9:=yN hl
    rw[hn,hPl]at V9
    have e:i+k=a.length+b.length:=by omega
    rw[e]at Qa
    rcases Nat.eq_zero_or_pos c with z | z
    ·subst z; omega
    ·have:=Nat.mul_le_mul_right (4294967296 ^ (a.length+b.length)) z
     omega
  ·left
   have hw:=wk hb k
   have ho:=wk hl (i+k)
   obtain⟨m1,m2,m3⟩:=mac hc hv hw ho
   have m4:=zhN hc hv hw ho
   refine⟨((((c+lm a i*lm b k+lm xs (i+k)) / 4294967296:Nat):Int),((k+1:Nat):Int),xs.set (i+k) (((c+lm a i*lm b k+lm xs (i+k)) % 4294967296:Nat):Int)),?_,⟨_,k+1,rfl,rfl,m3,by omega,dI hl _ (by omega) (by omega),by simpa using hn,?_⟩,by simp; omega⟩
   ·unfold cn
    have ev:zO (lm a i:Int)=lm a i:=qm (by omega) (by omega)
    have eo:zO (lm xs (i+k):Int)=lm xs (i+k):=qm (by omega) (by omega)
    simp only[eg,zj,hn,eik]
    rw[z8 (by simpa using(by omega)),qp _ (by omega) (by omega),z6 (yU b hb k)]
    simp only[xn,wR ha,jr hl,Int.toNat_natCast,Nat.zero_add,ev,eo,m4,JR,X2,i1 k (by omega)]
    simp(disch:=omega) [hn]
   ·simp only
    rw[show i+(k+1)=(i+k)+1 by omega,zY,Nat.pow_succ]
    have b9:=Xu (a:=xs) (i:=i+k) ((((c+lm a i*lm b k+lm xs (i+k)) % 4294967296:Nat):Int)) (by omega)
    rw[Int.toNat_natCast]at b9
    exact NH (N:=0) b9 Qa (Nat.pow_add _ _ _)
 ·right
  have cC:b.length<=k/\c=0:=by omega
  obtain⟨cC,rfl⟩:=cC
  refine⟨xs,?_,hl,hn,?_⟩
  ·unfold cn
   rw[z8 (by simpa using cC)]
   simp(disch:=omega)
  ·rw[qC cC]at Qa; simpa using Qa
theorem Zh(a b:List Int)(ha:zm a)(hb:zm b)(la:a.length<=1000000000)(lb:b.length<=1000000000):(ri a b).run=some (zu (nv a*nv b)):=by
 have ew:zF ((a.length:Int)+(b.length:Int))=((a.length+b.length:Nat):Int):=by rw[zA (by omega) (by omega)]; omega
 unfold ri
 rw[ew]
 simp only[Int.toNat_natCast,List.length_replicate]
 have zhd:nv a*nv b<4294967296 ^ (a.length+b.length):=by
  rw[Nat.pow_add]
  exact Nat.mul_lt_mul'' (yN ha) (yN hb)
 have loop:∃ r:List Int,(Wj a b (0,List.replicate (a.length+b.length) 0)).run=some r/\zm r/\r.length=a.length+b.length/\nv r=nv a*nv b:=by
  refine T.qI (λs:Int×List Int=>∃ i:Nat,s.1=(i:Int)/\i<=a.length/\zm s.2/\s.2.length=a.length+b.length/\nv s.2=nv (a.take i)*nv b)
   (λs=>a.length-s.1.toNat) _ ?_ ⟨0,rfl,by omega,xp _,by simp,by simp⟩
  rintro⟨_,xs⟩ ⟨i,rfl,hi,hl,hn,hv⟩
  simp only at hl hn hv ⊢
  by_cases qu:i<a.length
  ·left
   have e1:nv xs+4294967296 ^ i*(lm a i*nv b)=nv (a.take (i+1))*nv b:=by rw[hv,zY]; grind
   have hle:nv (a.take (i+1))*nv b<=nv a*nv b:=Nat.mul_le_mul_right _ (F0 a (i+1))
   obtain⟨ys,hr,fy,JF,Qa⟩:=VB a b ha hb la lb xs hl i qu hn (by rw[e1]; exact Nat.lt_of_le_of_lt hle zhd)
   refine⟨(((i+1:Nat):Int),ys),?_,⟨i+1,rfl,by omega,fy,JF.trans hn,Qa.trans e1⟩,by simp; omega⟩
   unfold fV
   simp only[y5,i1 i (by omega)]
   rw[if_pos (by simpa using qu),zJ _ rfl rfl rfl,zb rfl,z6 hr]
   simp(disch:=omega)
  ·right
   have:i=a.length:=by omega
   subst this
   refine⟨xs,?_,hl,hn,?_⟩
   ·unfold fV
    simp
   ·rw[List.take_length]at hv; exact hv
 obtain⟨xs,hr,hl,hn,hv⟩:=loop
 rw[T.run_mk _ (by omega) (by omega) (by omega) (by omega),zJ _ rfl rfl rfl,zb rfl,z6 hr]
 simp only[Nat.zero_add,List.drop_zero,List.take_length]
 rw[zb rfl,z6 (xF xs hl (by omega)),z7,hv]
theorem sj{a:List Int}{i:Nat}(h:i<a.length):nv (a.drop i)=lm a i+4294967296*nv (a.drop (i+1)):=DI h
theorem set_drop{a:List Int}{i:Nat}(x:Int)(h:i<a.length):nv ((a.set i x).drop i)=x.toNat+4294967296*nv (a.drop (i+1)):=by
 rw[sj (by simpa using h),j5,Xt h,if_pos rfl]
theorem OP{hi lo y:Nat}(h0:hi<y)(h1:lo<4294967296)(h2:y<4294967296) :
  (yj (hi:Int) (lo:Int) (y:Int)).run=some ((((hi*4294967296+lo) / y:Nat):Int),(((hi*4294967296+lo) % y:Nat):Int)):=by
 have e1:=BE (x:=(hi:Int)) (y:=(lo:Int)) (by omega) (by omega) (by omega) (by omega)
 have ey:zO (y:Int)=y:=qm (by omega) (by omega)
 have eh:zO (hi:Int)=hi:=qm (by omega) (by omega)
 have el:zO (lo:Int)=lo:=qm (by omega) (by omega)
 have hq:(hi*4294967296+lo) / y<4294967296:=by
  rw[Nat.div_lt_iff_lt_mul (by omega)]
  have:=Nat.mul_le_mul_left 4294967296 (show hi+1<=y from h0)
  omega
 have hr:(hi*4294967296+lo) % y<y:=Nat.mod_lt _ (by omega)
 have e2:(hi:Int)*4294967296+(lo:Int)=((hi*4294967296+lo:Nat):Int):=by omega
 have e3:Int.tdiv ((hi*4294967296+lo:Nat):Int) (y:Int)=(((hi*4294967296+lo) / y:Nat):Int):=by rw[cr (by omega)]; rfl
 have e4:Int.tmod ((hi*4294967296+lo:Nat):Int) (y:Int)=(((hi*4294967296+lo) % y:Nat):Int):=by rw[bX (by omega)]; rfl
 unfold yj
 rw[z8 (by simp; omega)]
 simp only[ey,eh,el,e1,e2,e3,e4]
 rw[uQ _ (by omega),vj _ (by omega),vj _ (by omega),z7,yM (by omega),sV hq,sV (by omega)]
theorem JC{A Q r y l q:Nat}(h:A=Q*y+r)(hq:q=(r*4294967296+l) / y):l+4294967296*A=(q+4294967296*Q)*y+(r*4294967296+l) % y:=by
 have:=Nat.div_add_mod (r*4294967296+l) y
 rw[<- hq]at this
 generalize (r*4294967296+l) % y=m at *
 rw[h]
 have e:(q+4294967296*Q)*y+m=(y*q+m)+4294967296*(Q*y):=by grind
 rw[e,this]; omega
theorem sD(a:List Int)(ha:zm a)(la:a.length<=1000000000)(y:Nat)(h0:0<y)(h1:y<4294967296):(dD a (y:Int)).run=some (zu (nv a / y),((nv a % y:Nat):Int)):=by
 have loop:∃ r:Int×List Int,(Qs a (y:Int) (0,(a.length:Int)-1,List.replicate a.length 0)).run=some r/\∃ m:Nat,r.1=(m:Int)/\m<y/\zm r.2/\r.2.length=a.length/\nv a=nv r.2*y+m:=by
  refine T.qI (λs:Int×Int×List Int=>∃ (m i:Nat),s.1=(m:Int)/\s.2.1=(i:Int)-1/\m<y/\i<=a.length/\zm s.2.2/\s.2.2.length=a.length/\nv (a.drop i)=nv (s.2.2.drop i)*y+m)
   (λs=>(s.2.1+1).toNat) _ ?_ ⟨0,a.length,rfl,rfl,h0,Nat.le_refl _,xp _,by simp,by simp⟩
  rintro⟨_,_,xs⟩ ⟨m,i,rfl,rfl,hm,hi,hl,hn,hv⟩
  simp only at hl hn hv ⊢
  cases i with
  | zero =>
   right
   refine⟨((m:Int),xs),?_,m,rfl,hm,hl,hn,by simpa using hv⟩
   unfold dn
   simp
  | succ i =>
   left
   have hx:=wk ha i
   have e1:((i+1:Nat):Int)-1=(i:Int):=by omega
   have hd:=OP hm hx h1
   have hq:(m*4294967296+lm a i) / y<4294967296:=by
    rw[Nat.div_lt_iff_lt_mul (by omega)]
    have:=Nat.mul_le_mul_left 4294967296 (show m+1<=y from hm)
    omega
   have ei:zF ((i:Int)-1)=(i:Int)-1:=zA (by omega) (by omega)
   refine⟨((((m*4294967296+lm a i) % y:Nat):Int),(i:Int)-1,xs.set i (((m*4294967296+lm a i) / y:Nat):Int)),?_,⟨_,i,rfl,rfl,Nat.mod_lt _ h0,by omega,xL hl _ hq,by simpa using hn,?_⟩,by simp⟩
   ·unfold dn
    simp only[e1,xn,wR ha,y5,ei]
    rw[if_pos (by simp),qp _ (by omega) (by omega),z6 hd]
    simp(disch:=omega) [hn]
   ·simp only
    rw[sj (by omega),set_drop _ (by omega),Int.toNat_natCast]
    exact JC hv rfl
 obtain⟨⟨_,xs⟩,hr,m,rfl,hm,hl,hn,hv⟩:=loop
 simp only at hl hn hv
 unfold dD
 rw[zA (by omega) (by omega)]
 simp only[Int.toNat_natCast,List.length_replicate]
 rw[T.run_mk _ (by omega) (by omega) (by omega) (by omega),zJ _ rfl rfl rfl,zb rfl,z6 hr]
 simp only[Nat.zero_add,List.drop_zero,List.take_length]
 have e1:nv a / y=nv xs:=by rw[hv,Nat.mul_comm,Nat.mul_add_div h0,Nat.div_eq_of_lt hm,Nat.add_zero]
 have e2:nv a % y=m:=by rw[hv,Nat.mul_comm,Nat.mul_add_mod,Nat.mod_eq_of_lt hm]
 rw[zb rfl,z6 (wi xs hl (by omega)),z7,e1,e2]
theorem oX(a:List Int)(ha:zm a)(la:a.length<=1000000000)(y:Nat)(h0:0<y)(h1:y<4294967296):(bJ a (y:Int)).run=some (zu (nv a / y),((nv a % y:Nat):Int)):=by
 have loop:∃ r:Int×List Int,(sU a (y:Int) (0,(a.length:Int)-1,List.replicate a.length 0)).run=some r/\∃ m:Nat,r.1=(m:Int)/\m<y/\zm r.2/\r.2.length=a.length/\nv a=nv r.2*y+m:=by
  refine T.qI (λs:Int×Int×List Int=>∃ (m i:Nat),s.1=(m:Int)/\s.2.1=(i:Int)-1/\m<y/\i<=a.length/\zm s.2.2/\s.2.2.length=a.length/\nv (a.drop i)=nv (s.2.2.drop i)*y+m)
   (λs=>(s.2.1+1).toNat) _ ?_ ⟨0,a.length,rfl,rfl,h0,Nat.le_refl _,xp _,by simp,by simp⟩
  rintro⟨_,_,xs⟩ ⟨m,i,rfl,rfl,hm,hi,hl,hn,hv⟩
  simp only at hl hn hv ⊢
  cases i with
  | zero =>
   right
   refine⟨((m:Int),xs),?_,m,rfl,hm,hl,hn,by simpa using hv⟩
   unfold bV
   simp
  | succ i =>
   left
   have hx:=wk ha i
   have e1:((i+1:Nat):Int)-1=(i:Int):=by omega
   have hq:(m*4294967296+lm a i) / y<4294967296:=by
    rw[Nat.div_lt_iff_lt_mul (by omega)]
    have:=Nat.mul_le_mul_left 4294967296 (show m+1<=y from hm)
    omega
   have ei:zF ((i:Int)-1)=(i:Int)-1:=zA (by omega) (by omega)
   have el:zO (lm a i:Int)=lm a i:=qm (by omega) (by omega)
   have e5:=BE (x:=(m:Int)) (y:=(lm a i:Int)) (by omega) (by omega) (by omega) (by omega)
   have e2:(m:Int)*4294967296+(lm a i:Int)=((m*4294967296+lm a i:Nat):Int):=by omega
   have e3:Int.tdiv ((m*4294967296+lm a i:Nat):Int) (y:Int)=(((m*4294967296+lm a i) / y:Nat):Int):=by rw[cr (by omega)]; rfl
   have e4:Int.tmod ((m*4294967296+lm a i:Nat):Int) (y:Int)=(((m*4294967296+lm a i) % y:Nat):Int):=by rw[bX (by omega)]; rfl
   have e6:xR (zO (((m*4294967296+lm a i) / y:Nat):Int))=(((m*4294967296+lm a i) / y:Nat):Int):=by rw[yM (by omega),sV hq]
   refine⟨((((m*4294967296+lm a i) % y:Nat):Int),(i:Int)-1,xs.set i (((m*4294967296+lm a i) / y:Nat):Int)),?_,⟨_,i,rfl,rfl,Nat.mod_lt _ h0,by omega,xL hl _ hq,by simpa using hn,?_⟩,by simp⟩
   ·unfold bV
    simp only[e1,xn,wR ha,y5,ei,el,e5,e2,e3,e4,e6]
    have hy:y≠0:=by omega
    rw[if_pos (by simp)]
    simp(disch:=omega) [hn,hy]
   ·simp only
    rw[sj (by omega),set_drop _ (by omega),Int.toNat_natCast]
    exact JC hv rfl
 obtain⟨⟨_,xs⟩,hr,m,rfl,hm,hl,hn,hv⟩:=loop
 simp only at hl hn hv
 unfold bJ
 rw[zA (by omega) (by omega)]
 simp only[Int.toNat_natCast,List.length_replicate]
 rw[T.run_mk _ (by omega) (by omega) (by omega) (by omega),zJ _ rfl rfl rfl,zb rfl,z6 hr]
 simp only[Nat.zero_add,List.drop_zero,List.take_length]
 have e1:nv a / y=nv xs:=by rw[hv,Nat.mul_comm,Nat.mul_add_div h0,Nat.div_eq_of_lt hm,Nat.add_zero]
 have e2:nv a % y=m:=by rw[hv,Nat.mul_comm,Nat.mul_add_mod,Nat.mod_eq_of_lt hm]
 rw[zb rfl,z6 (xF xs hl (by omega)),z7,e1,e2]
theorem GU{v s:Nat}(hv:v<4294967296)(hs:s<=32):yt .u64 (v:Int) (s:Int)=((v*2 ^ s:Nat):Int):=by
 have h1:2 ^ s<=2 ^ 32:=Nat.pow_le_pow_right (by omega) hs
 have h2:v*2 ^ s<=4294967295*4294967296:=Nat.mul_le_mul (by omega) h1
 have e:min (s:Int).toNat 64=s:=by simp; omega
 show zO ((v:Int)*2 ^ (min (s:Int).toNat 64))=_
 rw[e]
 have e2:(v:Int)*2 ^ s=((v*2 ^ s:Nat):Int):=by simp
 rw[e2,yM (by omega)]
theorem z6H{v s:Nat}(hs:s<=64):wH .u64 (v:Int) (s:Int)=((v / 2 ^ s:Nat):Int):=by
 have e:min (s:Int).toNat 64=s:=by simp; omega
 show Int.fdiv (v:Int) (2 ^ (min (s:Int).toNat 64))=_
 rw[e]
 have e2:(2:Int) ^ s=((2 ^ s:Nat):Int):=by simp
 rw[e2,Int.fdiv_eq_ediv_of_nonneg _ (Int.natCast_nonneg _)]; rfl
theorem z6O{h m s:Nat}(hh:h<2 ^ s):h ||| m*2 ^ s=h+m*2 ^ s:=by rw[Nat.or_comm,Jp m h s hh,Nat.add_comm]
theorem Bz(v s:Nat)(hs:s<=32):v*2 ^ s % 4294967296=(v % 2 ^ (32-s))*2 ^ s:=by
 have e:(4294967296:Nat)=2 ^ (32-s)*2 ^ s:=by rw[<- Nat.pow_add]; rw[show 32-s+s=32 by omega]
 rw[e,Nat.mul_mod_mul_right]
theorem Gg{h v s:Nat}(hh:h<2 ^ s)(hv:v<4294967296)(hs:s<32) :
  Z6 .u32 (h:Int) (xR ((v*2 ^ s:Nat):Int))=((h+v*2 ^ s % 4294967296:Nat):Int)/\h+v*2 ^ s % 4294967296<4294967296/\v*2 ^ s / 4294967296<2 ^ s:=by
 have h1:2 ^ s<=2 ^ 31:=Nat.pow_le_pow_right (by omega) (by omega)
 have e1:=Bz v s (by omega)
 have e2:(v % 2 ^ (32-s))*2 ^ s+2 ^ s<=4294967296:=by
  have:v % 2 ^ (32-s)+1<=2 ^ (32-s):=Nat.mod_lt _ (Nat.pow_pos (by omega))
  have:=Nat.mul_le_mul_right (2 ^ s) this
  rw[<- Nat.pow_add,show 32-s+s=32 by omega]at this
  rw[Nat.add_mul]at this
  omega
 refine⟨?_,by rw[e1]; omega,?_⟩
 ·rw[JR,ZX (by omega) (by omega),e1,z6O hh]
 ·rw[Nat.div_lt_iff_lt_mul (by omega),Nat.mul_comm]
  exact Nat.mul_lt_mul_of_pos_left hv (Nat.pow_pos (by omega))
theorem Vy{X h P V v t A:Nat}(hv:X+h*P=V*t)(hA:A=v*t):X+P*(h+A % 4294967296)+A / 4294967296*(P*4294967296)=(V+P*v)*t:=by
 have e:A=A % 4294967296+4294967296*(A / 4294967296):=by omega
 generalize A % 4294967296=lo at *
 generalize A / 4294967296=hi at *
 have e2:X+P*(h+lo)+hi*(P*4294967296)=(X+h*P)+P*(lo+4294967296*hi):=by grind
 rw[e2,hv,<- e,hA]; grind
theorem Gf(a:List Int)(ha:zm a)(la:a.length<=1000000000)(s n:Nat)(hs:s<32)(C5:a.length<=n)(JF:n<=a.length+1)(UH:nv a*2 ^ s<4294967296 ^ n) :
  ∃ r,(W0 (s:Int) (n:Int) a (a.length:Int) (0,List.replicate n 0)).run=some r/\zm r/\r.length=n/\nv r=nv a*2 ^ s:=by
 refine T.qI (λz:Int×List Int=>∃ i h:Nat,z.1=(i:Int)/\i<=a.length/\zm z.2/\z.2.length=n/\h<2 ^ s/\(i<n->lm z.2 i=h)/\nv (z.2.take i)+h*4294967296 ^ i=nv (a.take i)*2 ^ s)
  (λz=>a.length-z.1.toNat) _ ?_ ⟨0,0,rfl,by omega,xp _,by simp,Nat.pow_pos (by omega),λ_ => ?_,by simp⟩
 ·rintro⟨_,xs⟩ ⟨i,h,rfl,hi,hl,hn,hh,hli,hv⟩
  simp only at hl hn hli hv ⊢
  by_cases qu:i<a.length
  ·left
   have hx:=wk ha i
   obtain⟨s1,s2,s3⟩:=Gg hh hx hs
   have hb:zO (lm a i:Int)=lm a i:=yM (by omega)
   have hlx:=hli (by omega)
   have hp:2 ^ s<=2 ^ 31:=Nat.pow_le_pow_right (by omega) (by omega)
   have e2:xR ((lm a i*2 ^ s / 4294967296:Nat):Int)=((lm a i*2 ^ s / 4294967296:Nat):Int):=sV (by omega)
   by_cases XS:i+1<n
   all_goals have zbe:((i:Int)+1<(n:Int))↔(i+1<n):=by omega
   ·refine⟨(((i+1:Nat):Int),(xs.set i ((h+lm a i*2 ^ s % 4294967296:Nat):Int)).set (i+1) ((lm a i*2 ^ s / 4294967296:Nat):Int)),?_,
     ⟨i+1,lm a i*2 ^ s / 4294967296,rfl,by omega,xL (xL hl _ s2) _ (by omega),by simpa using hn,s3,λ_ => ?_,?_⟩,by simp; omega⟩
    ·unfold cy
     simp only[xn,wR ha,Int.toNat_natCast,Nat.zero_add,jr hl,hb,GU hx (show s<=32 by omega),hlx,s1,i1 i (by omega),X2,e2]
     simp(disch:=omega) [qu,hn,XS,zbe]
    ·simp only
     rw[Xt (by simp; omega),if_pos rfl,Int.toNat_natCast]
    ·simp only
     rw[XN _ _ _ _ (Nat.le_refl _),uJ _ (by omega),zY,Int.toNat_natCast,Nat.pow_succ]
     exact Vy hv rfl
   ·refine⟨(((i+1:Nat):Int),xs.set i ((h+lm a i*2 ^ s % 4294967296:Nat):Int)),?_,
     ⟨i+1,lm a i*2 ^ s / 4294967296,rfl,by omega,xL hl _ s2,by simpa using hn,s3,λ_=>by omega,?_⟩,by simp; omega⟩
    ·unfold cy
     simp only[xn,wR ha,Int.toNat_natCast,Nat.zero_add,jr hl,hb,GU hx (show s<=32 by omega),hlx,s1,i1 i (by omega),X2,e2]
     simp(disch:=omega) [qu,hn,XS,zbe]
    ·simp only
     rw[uJ _ (by omega),zY,Int.toNat_natCast,Nat.pow_succ]
     exact Vy hv rfl
  ·right
   have:i=a.length:=by omega
   subst this
   refine⟨xs,?_,hl,hn,?_⟩
   ·unfold cy
    simp
   ·rw[List.take_length]at hv
    by_cases q:n=a.length
    ·rw[qC (by omega)]at hv
     rcases Nat.eq_zero_or_pos h with z | z
     ·subst z; omega
     ·have:=Nat.mul_le_mul_right (4294967296 ^ a.length) z
      rw[q]at UH; omega
    ·have vM:n=a.length+1:=by omega
     have:=zY xs a.length
     rw[qC (by omega),hli (by omega),Nat.mul_comm]at this
     omega
 ·show lm (List.replicate n 0) 0=0
  unfold lm nth
  cases n<;>simp[List.replicate_succ]
theorem Gu(a:List Int)(ha:zm a)(la:a.length<=1000000000)(s n:Nat)(hs:s<32)(C5:a.length<=n)(JF:n<=a.length+1)(UH:nv a*2 ^ s<4294967296 ^ n) :
  ∃ r,(ZY a (s:Int) (n:Int)).run=some r/\zm r/\r.length=n/\nv r=nv a*2 ^ s:=by
 obtain⟨r,h1,h2,h3,h4⟩:=Gf a ha la s n hs C5 JF UH
 refine⟨r,?_,h2,h3,h4⟩
 unfold ZY
 simp only[Int.toNat_natCast,List.length_replicate]
 rw[T.run_mk _ (by omega) (by omega) (by omega) (by omega),zJ _ rfl rfl rfl,zb rfl,z6 h1]
 simp
theorem pY(a:List Int)(ha:zm a)(la:a.length<=1000000000)(s n:Nat)(hs:s<32)(C5:a.length<=n)(JF:n<=a.length+1)(UH:nv a*2 ^ s<4294967296 ^ n) :
  ∃ r,(fc a (s:Int) (n:Int)).run=some r/\zm r/\r.length=n/\nv r=nv a*2 ^ s:=by
 obtain⟨r,h1,h2,h3,h4⟩:=Gf a ha la s n hs C5 JF UH
 refine⟨r,?_,h2,h3,h4⟩
 have WD:(sE (s:Int) (n:Int) a (a.length:Int) (0,List.replicate n 0)).run=some r:=h1
 unfold fc
 simp only[Int.toNat_natCast,List.length_replicate]
 rw[T.run_mk _ (by omega) (by omega) (by omega) (by omega),zJ _ rfl rfl rfl,zb rfl,z6 WD]
 simp
theorem zdD{a b s:Nat}(hs:s<=32)(ha:a<2 ^ (32-s)):a ||| b*2 ^ (32-s)=a+b*2 ^ (32-s):=by rw[Nat.or_comm,Jp b a (32-s) ha,Nat.add_comm]
theorem ko(s:Nat)(h:s<=32):(4294967296:Nat)=2 ^ (32-s)*2 ^ s:=by rw[<- Nat.pow_add,show 32-s+s=32 by omega]
theorem zcO{v s:Nat}(hs:s<=32):v*4294967296 / 2 ^ s=v*2 ^ (32-s):=by
 rw[ko s hs,<- Nat.mul_assoc,Nat.mul_div_cancel _ (Nat.pow_pos (by omega))]
theorem z7B{v s:Nat}(hs:s<=32):v*2 ^ (32-s) / 4294967296=v / 2 ^ s:=by
 rw[ko s hs,Nat.mul_comm v,Nat.mul_div_mul_left _ _ (Nat.pow_pos (by omega))]
theorem z8g{v s:Nat}(hs:s<=32):v*2 ^ (32-s) % 4294967296=(v % 2 ^ s)*2 ^ (32-s):=by
 rw[ko s hs,Nat.mul_comm (2 ^ (32-s)),Nat.mul_mod_mul_right]
theorem z1D{V v P s C:Nat}(hs:s<=32)(hC:C=V / 2 ^ s):C+P*((v % 2 ^ s)*2 ^ (32-s))+P*4294967296*(v / 2 ^ s)=(V+P*4294967296*v) / 2 ^ s:=by
 have hp:0<2 ^ s:=Nat.pow_pos (by omega)
 have e1:V+P*4294967296*v=V+(P*2 ^ (32-s)*v)*2 ^ s:=by
  have:P*4294967296*v=P*(2 ^ (32-s)*2 ^ s)*v:=by rw[<- ko s hs]
  rw[this]; grind
 rw[e1,Nat.add_mul_div_right _ _ hp,hC]
 have e2:v=v % 2 ^ s+2 ^ s*(v / 2 ^ s):=by have:=Nat.div_add_mod v (2 ^ s); omega
 have e3:P*4294967296*(v / 2 ^ s)=P*(2 ^ (32-s)*2 ^ s)*(v / 2 ^ s):=by rw[<- ko s hs]
 rw[e3]
 have e4:P*2 ^ (32-s)*v=P*2 ^ (32-s)*(v % 2 ^ s+2 ^ s*(v / 2 ^ s)):=by rw[<- e2]
 rw[e4]
 generalize v % 2 ^ s=lo
 generalize v / 2 ^ s=hi
 grind
theorem SI(x:List Int)(hx:zm x)(lx:x.length<=4000000000)(s:Nat)(hs:s<32) :
  ∃ r,(ZC (s:Int) x (x.length:Int) (0,List.replicate x.length 0)).run=some r/\zm r/\r.length=x.length/\nv r=nv x / 2 ^ s:=by
 refine T.qI (λz:Int×List Int=>∃ i:Nat,z.1=(i:Int)/\i<=x.length/\zm z.2/\z.2.length=x.length/\(∀ j,i<=j->lm z.2 j=0)/\(∀ j,i=j+1->lm z.2 j=lm x j / 2 ^ s)/\nv (z.2.take i)=nv (x.take i) / 2 ^ s)
  (λz=>x.length-z.1.toNat) _ ?_ ⟨0,rfl,by omega,xp _,by simp,λj _ => ?_,λj h=>by omega,by simp⟩
 ·rintro⟨_,xs⟩ ⟨i,rfl,hi,hl,hn,hz,hp,hv⟩
  simp only at hl hn hz hp hv ⊢
  by_cases qu:i<x.length
  ·left
   have JY:=wk hx i
   have hb:zO (lm x i:Int)=lm x i:=yM (by omega)
   have h32:(32:Int)=((32:Nat):Int):=rfl
   have w1:wH .u64 (yt .u64 (lm x i:Int) 32) (s:Int)=((lm x i*2 ^ (32-s):Nat):Int):=by
    rw[h32,GU JY (by omega),z6H (by omega),<- zcO (by omega)]
   have hq:lm x i / 2 ^ s<4294967296:=Nat.lt_of_le_of_lt (Nat.div_le_self _ _) JY
   have w2:xR (wH .u64 ((lm x i*2 ^ (32-s):Nat):Int) 32)=((lm x i / 2 ^ s:Nat):Int):=by rw[X2,z7B (by omega),sV hq]
   have w3:Z6 .u32 (yE xs i 0) ((lm x i / 2 ^ s:Nat):Int)=((lm x i / 2 ^ s:Nat):Int):=by
    rw[jr hl,hz i (Nat.le_refl _),ZX (by omega) hq,Nat.zero_or]
   cases i with
   | zero =>
    refine⟨(1,xs.set 0 ((lm x 0 / 2 ^ s:Nat):Int)),?_,⟨1,rfl,by omega,xL hl _ hq,by simpa using hn,λj h => ?_,λj h => ?_,?_⟩,by simp; omega⟩
    ·have w3':=w3
     simp only[Int.natCast_zero]at *
     have Ve:nth x 0 0=(lm x 0:Int):=wR hx 0
     unfold gM
     simp only[xn,Ve,Int.toNat_natCast,Nat.zero_add,hb,w1,w2,w3]
     have zeX:Z6 .u32 (yE xs (Int.toNat 0) 0) ((lm x 0 / 2 ^ s:Nat):Int)=((lm x 0 / 2 ^ s:Nat):Int):=w3
     generalize lm x 0 / 2 ^ s=q at *
     simp only[zeX]
     simp(disch:=omega) [qu,hn]
    ·rw[yB _ _ _ _ (by omega)]; exact hz j (by omega)
    ·have:j=0:=by omega
     subst this
     rw[Xt (by omega),if_pos rfl,Int.toNat_natCast]
    ·simp only
     rw[uJ _ (by omega),zY]; simp only[Int.toNat_natCast,List.take_zero,Hb,Nat.pow_zero,Nat.one_mul,Nat.zero_add]
   | succ i =>
    have Bf:=hp i rfl
    have zhQ:=wk hx i
    have hq2:lm xs i<2 ^ (32-s):=by
     rw[Bf,Nat.div_lt_iff_lt_mul (Nat.pow_pos (by omega)),<- ko s (by omega)]; exact zhQ
    have hq3:lm x (i+1)*2 ^ (32-s) % 4294967296=(lm x (i+1) % 2 ^ s)*2 ^ (32-s):=z8g (by omega)
    have hq4:lm xs i+(lm x (i+1) % 2 ^ s)*2 ^ (32-s)<4294967296:=by
     have h1:lm x (i+1) % 2 ^ s+1<=2 ^ s:=Nat.mod_lt _ (Nat.pow_pos (by omega))
     have h2:=Nat.mul_le_mul_right (2 ^ (32-s)) h1
     rw[Nat.mul_comm (2 ^ s),<- ko s (by omega),Nat.add_mul]at h2
     omega
    have hxi:=wk hl i
    have w4:∀ ys:List Int,zm ys->lm ys i=lm xs i->Z6 .u32 (yE ys i 0) (xR ((lm x (i+1)*2 ^ (32-s):Nat):Int))=((lm xs i+(lm x (i+1) % 2 ^ s)*2 ^ (32-s):Nat):Int):=by
     intro ys hys he
     rw[jr hys,he,JR,ZX hxi (Nat.mod_lt _ (by omega)),hq3,zdD (by omega) hq2]
    have w5:=w4 _ (xL hl (i+1) hq) (yB _ _ _ _ (by omega))
    refine⟨(((i+1+1:Nat):Int),(xs.set (i+1) ((lm x (i+1) / 2 ^ s:Nat):Int)).set i ((lm xs i+(lm x (i+1) % 2 ^ s)*2 ^ (32-s):Nat):Int)),?_,
     ⟨i+1+1,rfl,by omega,xL (xL hl _ hq) _ hq4,by simpa using hn,λj h => ?_,λj h => ?_,?_⟩,by simp; omega⟩
    ·unfold gM
     simp only[xn,wR hx,Int.toNat_natCast,Nat.zero_add,hb,w1,w2,w3,i1 (i+1) (by omega),im1 i (by omega),w5]
     rw[za (by simp; omega)]
     have ZV:decide ((0:Int)<((i+1:Nat):Int))=true:=by simp
     generalize hG:(xs.set (i+1) ((lm x (i+1) / 2 ^ s:Nat):Int)).set i ((lm xs i+(lm x (i+1) % 2 ^ s)*2 ^ (32-s):Nat):Int)=G
     have hGl:G.length=xs.length:=by rw[<- hG]; simp
     rw[qp _ (by omega) (by omega),uQ _ (by omega),uQ _ (by omega),qp _ (by omega) (by omega),jG _ rfl (by omega),uQ _ (by omega),qp _ (by omega) (by omega),jG _ rfl (by omega),za ZV,
      qp _ (by omega) (by omega),jG _ (by simp) (by simp; omega),qp _ (by omega) (by omega),jG _ (by simp) (by simp; omega),zJ _ (by omega) rfl (by omega),vk _ (by omega),z7]
    ·rw[yB _ _ _ _ (by omega),yB _ _ _ _ (by omega)]; exact hz j (by omega)
    ·have:j=i+1:=by omega
     subst this
     rw[yB _ _ _ _ (by omega),Xt (by omega),if_pos rfl,Int.toNat_natCast]
    ·simp only
     rw[zY,yB _ _ _ _ (by omega),Xt (by omega),if_pos rfl,Int.toNat_natCast,uJ _ (by simp; omega),XN _ _ _ _ (by omega),Int.toNat_natCast,zY,Nat.pow_succ]
     have Qa:=hv
     rw[zY]at Qa
     have e:nv (xs.take i)+4294967296 ^ i*(lm xs i+lm x (i+1) % 2 ^ s*2 ^ (32-s))=(nv (xs.take i)+4294967296 ^ i*lm xs i)+4294967296 ^ i*(lm x (i+1) % 2 ^ s*2 ^ (32-s)):=by rw[Nat.mul_add]; omega
     rw[e]
     exact z1D (by omega) Qa
  ·right
   have:i=x.length:=by omega
   subst this
   refine⟨xs,?_,hl,hn,?_⟩
   ·unfold gM
    simp
   ·rw[List.take_length,qC (by omega)]at hv; exact hv
 ·show lm (List.replicate x.length 0) j=0
  unfold lm nth
  simp[List.getD_eq_getElem?_getD,List.getElem?_replicate]
  split<;>simp
theorem z3n{A k:Nat}(h:(zu A).length<=k):A<4294967296 ^ k:=zR.1 h
theorem Yg(k:Nat):(4294967296:Nat) ^ (k / 32)*2 ^ (k % 32)=2 ^ k:=by
 have:(4294967296:Nat)=2 ^ 32:=by decide
 rw[this,<- Nat.pow_mul,<- Nat.pow_add]; congr 1; omega
theorem Kg(a:List Int)(ha:zm a)(la:a.length<=1000000000)(k:Nat)(hk:k<=4096)(h0:0<k):(br a (-(k:Int))).run=some (zu (nv a / 2 ^ k)):=by
 have qa:=zw ha
 unfold br
 rw[z6 (wi a ha (by omega))]
 generalize nv a=A at *
 have e1:H6 (mP (-(k:Int)) (-4096)) 4096 = -(k:Int):=by unfold H6 mP; repeat' split<;>omega
 have e2:zF (0 - -(k:Int))=(k:Int):=by rw[zA (by omega) (by omega)]; omega
 have e3:zF (Int.tdiv (k:Int) 32)=((k / 32:Nat):Int):=by rw[cr (by omega),zA (by omega) (by omega)]; omega
 have e4:zO (Int.tmod (k:Int) 32)=((k % 32:Nat):Int):=by rw[bX (by omega),qm (by omega) (by omega)]; omega
 simp only[e1,e2,e3,e4]
 rw[za (by simp; omega),vj _ (by omega)]
 have hx:=zn A
 by_cases c:(zu A).length<=k / 32
 ·rw[za (by simp; omega),z7]
  have h1:=z3n c
  have h2:=Yg k
  have h3:4294967296 ^ (k / 32)<=2 ^ k:=by rw[<- h2]; exact Nat.le_mul_of_pos_right _ (Nat.pow_pos (by omega))
  rw[Nat.div_eq_of_lt (by omega),ql]
 ·rw[z8 (by simp; omega),vj _ (by omega)]
  have e5:zF (((zu A).length:Int)-((k / 32:Nat):Int))=(((zu A).length-k / 32:Nat):Int):=by rw[zA (by omega) (by omega)]; omega
  have e6:va (e:=.int .u32) ((k / 32:Nat):Int) ((zu A).length:Int) (zu A)=(zu A).drop (k / 32):=by unfold va; simp only[Int.toNat_natCast,List.take_length]
  obtain⟨r,g1,g2,g3,g4⟩:=SI ((zu A).drop (k / 32)) (eS hx _) (by simp; omega) (k % 32) (Nat.mod_lt _ (by omega))
  have hlen:((zu A).drop (k / 32)).length=(zu A).length-k / 32:=List.length_drop
  rw[hlen]at g1
  simp only[e5,e6,Int.toNat_natCast,List.length_replicate,hlen]
  rw[T.run_mk _ (by omega) (by omega) (by omega) (by omega),fh _ (by omega) (by omega) (by omega),zJ _ rfl rfl rfl,zb rfl,z6 g1]
  simp only[Nat.zero_add,List.drop_zero,List.take_length]
  rw[zb rfl,z6 (wi r g2 (by omega)),z7,g4]
  have h1:=kS (zu A) (k / 32) (by omega)
  rw[zW]at h1
  have h2:=uu hx (k / 32)
  have h3:A / 4294967296 ^ (k / 32)=nv ((zu A).drop (k / 32)):=by
   refine(congrArg (· / 4294967296 ^ (k / 32)) h1).trans ?_
   rw[Nat.add_mul_div_left _ _ (ZM _),Nat.div_eq_of_lt h2,Nat.zero_add]
  rw[<- h3,Nat.div_div_eq_div_mul,Yg]
theorem Gs(k:Nat)(l:List Int):nv (List.replicate k 0++l)=4294967296 ^ k*nv l:=by rw[yR]; simp
theorem Kh(a:List Int)(ha:zm a)(la:a.length<=1000000000)(k:Nat)(hk:k<=4096):(br a (k:Int)).run=some (zu (nv a*2 ^ k)):=by
 have qa:=zw ha
 unfold br
 rw[z6 (wi a ha (by omega))]
 generalize nv a=A at *
 have e1:H6 (mP (k:Int) (-4096)) 4096=(k:Int):=by unfold H6 mP; repeat' split<;>omega
 have e3:zF (Int.tdiv (k:Int) 32)=((k / 32:Nat):Int):=by rw[cr (by omega),zA (by omega) (by omega)]; omega
 have e4:zO (Int.tmod (k:Int) 32)=((k % 32:Nat):Int):=by rw[bX (by omega),qm (by omega) (by omega)]; omega
 have hx:=zn A
 have e5:zF ((zu A).length+1:Int)=(((zu A).length+1:Nat):Int):=i1 _ (by omega)
 have e6:zF (zF (((k / 32:Nat):Int)+(zu A).length)+1)=((k / 32+(zu A).length+1:Nat):Int):=by rw[zA (x:=((k / 32:Nat):Int)+(zu A).length) (by omega) (by omega),zA (by omega) (by omega)]; omega
 have UH:nv (zu A)*2 ^ (k % 32)<4294967296 ^ ((zu A).length+1):=by
  have h1:=yN hx
  have h2:2 ^ (k % 32)<=2 ^ 32:=Nat.pow_le_pow_right (by omega) (by omega)
  rw[Nat.pow_succ]
  exact Nat.mul_lt_mul_of_lt_of_le h1 h2 (by omega)
 obtain⟨r,g1,g2,g3,g4⟩:=Gu (zu A) hx (by omega) (k % 32) ((zu A).length+1) (Nat.mod_lt _ (by omega)) (by omega) (by omega) UH
 simp only[e1,e3,e4,e5,e6]
 rw[z8 (by simp),vj _ (by omega),T.run_mk _ (by omega) (by omega) (by omega) (by omega),fh _ (by omega) (by simp; omega) (by simp),vj _ (by omega),z6 g1]
 simp only[Int.toNat_natCast,Nat.zero_add,List.length_replicate,List.drop_zero]
 rw[z2z _ rfl (by omega),zo]
 have ec:((kG (k / 32) (k / 32+(zu A).length+1-k / 32) (List.replicate (k / 32+(zu A).length+1) (0:Int)) r))=List.replicate (k / 32) 0++r:=by
  unfold kG
  rw[List.take_replicate,List.drop_replicate,List.take_of_length_le (by omega)]
  rw[show k / 32+(zu A).length+1-(k / 32+min (k / 32+(zu A).length+1-k / 32) r.length)=0 by omega]
  rw[show min (k / 32) (k / 32+(zu A).length+1)=k / 32 by omega]
  simp
 rw[ec,List.take_of_length_le (by simp; omega)]
 rw[z6 (wi _ (nk.2 ⟨xp _,g2⟩) (by simp; omega)),z7,Gs,g4,zW]
 congr 2
 rw[<- Yg k]; grind
theorem Wy(a:List Int)(ha:zm a)(la:a.length<=1000000000):(mH a 1).run=some (zu (nv a*2)):=by
 have qa:=zw ha
 unfold mH
 rw[z6 (xF a ha (by omega))]
 generalize nv a=A at *
 have hx:=zn A
 have hxn:=zW A
 generalize zu A=x at *
 have e1:H6 (mP (1:Int) (-4096)) 4096=1:=by decide
 have e3:zF (Int.tdiv (1:Int) 32)=0:=by decide
 have e4:zO (Int.tmod (1:Int) 32)=1:=by decide
 have e5:zF ((x.length:Int)+1)=((x.length+1:Nat):Int):=i1 _ (by omega)
 simp only[e1,e3,e4]
 rw[z8 (by decide),vj _ (by omega),T.run_mk _ (by omega) (by omega) (by omega) (by omega),vj _ (by omega)]
 simp only[Int.toNat_zero,List.replicate_zero,List.length_nil]
 have loop:∃ r:List Int,(sW x 1 (0,0,[])).run=some r/\zm r/\r.length=x.length+1/\nv r=A*2:=by
  refine T.qI (λs:Int×Int×List Int=>∃ (c i:Nat),s.1=(c:Int)/\s.2.1=(i:Int)/\c<2 ^ 1/\i<=x.length+1/\zm s.2.2/\s.2.2.length=i/\nv s.2.2+c*4294967296 ^ i=nv (x.take i)*2 ^ 1)
   (λs=>x.length+1-s.2.1.toNat) _ ?_ ⟨0,0,rfl,rfl,by omega,by omega,bA,rfl,by simp⟩
  rintro⟨_,_,xs⟩ ⟨c,i,rfl,rfl,hc,hi,hl,hn,hv⟩
  simp only at hl hn hv ⊢
  by_cases qu:i<x.length+1
  ·left
   have JY:=wk hx i
   obtain⟨s1,s2,s3⟩:=Gg hc JY (show 1<32 by omega)
   have w1:yt .u64 (lm x i:Int) 1=((lm x i*2 ^ 1:Nat):Int):=GU (s:=1) JY (by omega)
   have w2:xR (Z6 .u64 ((lm x i*2 ^ 1:Nat):Int) (c:Int))=((c+lm x i*2 ^ 1 % 4294967296:Nat):Int):=by
    rw[IS (by omega) (by omega),Jp _ _ 1 hc,JR]; omega
   refine⟨(((lm x i*2 ^ 1 / 4294967296:Nat):Int),((i+1:Nat):Int),xs++[((c+lm x i*2 ^ 1 % 4294967296:Nat):Int)]),?_,⟨_,i+1,rfl,rfl,s3,by omega,tT hl (by omega) (by omega),by simp; omega,?_⟩,by simp; omega⟩
   ·unfold bU
    simp only[y5,e5]
    rw[if_pos (by simp; omega),z6 (yU x hx i)]
    simp only[w1,w2,X2,i1 i (by omega)]
    simp(disch:=omega) [hn]
   ·simp only
    rw[Hr,hn,zY,Nat.pow_succ,Int.toNat_natCast]
    exact Vy hv rfl
  ·right
   have XH:i=x.length+1:=by omega
   subst XH
   refine⟨xs,?_,hl,hn,?_⟩
   ·unfold bU
    simp[e5]
   ·rw[qC (by omega),hxn]at hv
    have h1:=yN hx
    rw[hxn]at h1
    rcases Nat.eq_zero_or_pos c with z | z
    ·subst z; omega
    ·have:=Nat.mul_le_mul_right (4294967296 ^ (x.length+1)) z
     rw[Nat.pow_succ]at this hv; omega
 obtain⟨xs,hr,hl,hn,hv⟩:=loop
 rw[zJ _ rfl rfl rfl,zb rfl,z6 hr]
 simp only[List.drop_zero,Nat.zero_add,List.take_length]
 rw[zb rfl,z6 (xF xs hl (by omega)),hv,z7]
theorem ND{u2 u1 u0 v1 v2:Nat}(h2:u2<4294967296)(h1:u1<4294967296)(h0:u0<4294967296)(hv1:v1<4294967296)(Qa:v2<4294967296)(hn:2147483648<=v1)
  (ht:u2*18446744073709551616+u1*4294967296+u0<(v1*4294967296+v2+1)*4294967296) :
  (dC (u2:Int) (u1:Int) (u0:Int) (v1:Int) (v2:Int)).run=some ((min ((u2*18446744073709551616+u1*4294967296+u0) / (v1*4294967296+v2)) 4294967295:Nat):Int):=by
 obtain⟨t1,t2⟩:=OH hn Qa ht
 have ti:=Eh (u2:=u2) (u1:=u1) (u0:=u0) (v1:=v1) (v2:=v2) (by omega) h0
 obtain⟨Q,hQ⟩:∃ Q,(u2*18446744073709551616+u1*4294967296+u0) / (v1*4294967296+v2)=Q:=⟨_,rfl⟩
 rw[hQ]at ti ⊢
 have hV:0<v1*4294967296+v2:=by omega
 have e1:=BE (x:=(u2:Int)) (y:=(u1:Int)) (by omega) (by omega) (by omega) (by omega)
 have e2:(u2:Int)*4294967296+(u1:Int)=((u2*4294967296+u1:Nat):Int):=by omega
 have w1:zO (u1:Int)=u1:=yM (by omega)
 have w2:zO (u2:Int)=u2:=yM (by omega)
 have w0:zO (u0:Int)=u0:=yM (by omega)
 have x1:zO (v1:Int)=v1:=yM (by omega)
 have x2:zO (v2:Int)=v2:=yM (by omega)
 have e3:Int.tdiv ((u2*4294967296+u1:Nat):Int) (v1:Int)=(((u2*4294967296+u1) / v1:Nat):Int):=by rw[cr (by omega)]; rfl
 have e4:Int.tmod ((u2*4294967296+u1:Nat):Int) (v1:Int)=(((u2*4294967296+u1) % v1:Nat):Int):=by rw[bX (by omega)]; rfl
 have hm:(u2*4294967296+u1) % v1<v1:=Nat.mod_lt _ (by omega)
 have hdm:=Nat.div_add_mod (u2*4294967296+u1) v1
 rw[Nat.mul_comm]at hdm
 have loop:∃ r:Int,(ZZ (u0:Int) (v1:Int) (v2:Int) ((((u2*4294967296+u1) / v1:Nat):Int),(((u2*4294967296+u1) % v1:Nat):Int))).run=some r/\r=((min Q 4294967295:Nat):Int):=by
  refine T.qI (λs:Int×Int=>∃ q r:Nat,s.1=(q:Int)/\s.2=(r:Int)/\q<=4294967297/\r<4294967296/\q*v1+r=u2*4294967296+u1/\min Q 4294967295<=q)
   (λs=>s.1.toNat) _ ?_ ⟨_,_,rfl,rfl,t2,by omega,hdm,by omega⟩
  rintro⟨_,_⟩ ⟨q,r,rfl,rfl,hq,hr,hqr,z6V⟩
  have e5:=BE (x:=(r:Int)) (y:=(u0:Int)) (by omega) (by omega) (by omega) (by omega)
  have es:wH .u64 (q:Int) 32=((q / 4294967296:Nat):Int):=X2 q
  by_cases hbig:4294967296<=q\/r*4294967296+u0<q*v2
  ·-- too many
   have hgt:min Q 4294967295<q:=by
    rcases hbig with h | h
    ·omega
    ·have:=z0G hV (Pp (u2:=u2) (u1:=u1) (u0:=u0) (v1:=v1) (v2:=v2) hqr h)
     omega
   have ec:((wH .u64 (q:Int) 32 != 0)||decide (Z6 .u64 (yt .u64 (r:Int) 32) (u0:Int)<zO ((q:Int)*(v2:Int))))=true:=by
    rw[es,e5]
    by_cases h:4294967296<=q
    ·have:(((q / 4294967296:Nat):Int) != 0)=true:=by simp; omega
     rw[this]; rfl
    ·have hh:r*4294967296+u0<q*v2:=hbig.resolve_left h
     have D6:=lH (x:=q) (y:=v2) (Nat.lt_of_not_le h) Qa
     have e6:(q:Int)*(v2:Int)=((q*v2:Nat):Int):=by simp
     rw[e6,yM (Nat.lt_of_le_of_lt D6 (by decide))]
     generalize q*v2=z at *
     rw[show decide ((r:Int)*4294967296+(u0:Int)<(z:Int))=true from decide_eq_true (by omega)]; simp
   have eq1:zO ((q:Int)-1)=((q-1:Nat):Int):=by rw[qm (by omega) (by omega)]; omega
   have er1:zO ((r:Int)+(v1:Int))=((r+v1:Nat):Int):=by rw[qm (by omega) (by omega)]; omega
   have hq1:(q-1)*v1+(r+v1)=u2*4294967296+u1:=by
    obtain⟨p,rfl⟩:∃ p,q=p+1:=⟨q-1,by omega⟩
    rw[Nat.add_mul]at hqr
    simp only[Nat.add_sub_cancel]; omega
   by_cases hover:4294967296<=r+v1
   ·right
    refine⟨((q-1:Nat):Int),?_,?_⟩
    ·unfold gf
     simp only[w0,x1,x2,eq1,er1]
     rw[zb ⟨by omega,λ_=>by omega⟩,za ec,uQ _ (by omega),za (by rw[X2]; simp; omega),z7]
    ·-- what is left cannot be more
     have hq2:q-1<=Q:=by
      rw[<- hQ,Nat.le_div_iff_mul_le hV]
      refine D3 (u0:=u0) hq1 ?_
      have h3:q-1<=4294967295:=by
       rcases Nat.lt_or_ge 4294967296 q with h | h
       ·have hq3:q=4294967297:=by omega
        subst hq3
        simp only[Nat.add_one_sub_one]at hq1
        omega
       ·omega
      have h4:(q-1)*v2<=4294967295*4294967295:=Nat.mul_le_mul h3 (by omega)
      generalize (q-1)*v2=z at *
      omega
     have h5:q-1<=4294967295:=by
      rcases Nat.lt_or_ge 4294967296 q with h | h
      ·have hq3:q=4294967297:=by omega
       subst hq3
       simp only[Nat.add_one_sub_one]at hq1
       omega
      ·omega
     omega
   ·left
    refine⟨(((q-1:Nat):Int),((r+v1:Nat):Int)),?_,⟨q-1,r+v1,rfl,rfl,by omega,by omega,hq1,by omega⟩,by simp; omega⟩
    unfold gf
    simp only[w0,x1,x2,eq1,er1]
    rw[zb ⟨by omega,λ_=>by omega⟩,za ec,uQ _ (by omega),z8 (by rw[X2]; simp; omega),z7]
  ·right
   have D6:=lH (x:=q) (y:=v2) (by omega) Qa
   have e6:(q:Int)*(v2:Int)=((q*v2:Nat):Int):=by simp
   have ec:((wH .u64 (q:Int) 32 != 0)||decide (Z6 .u64 (yt .u64 (r:Int) 32) (u0:Int)<zO ((q:Int)*(v2:Int))))=false:=by
    have hz:q / 4294967296=0:=by omega
    rw[es,e5,e6,yM (Nat.lt_of_le_of_lt D6 (by decide)),hz]
    have hh:¬ (r*4294967296+u0<q*v2):=by omega
    generalize q*v2=z at *
    rw[show decide ((r:Int)*4294967296+(u0:Int)<(z:Int))=false from decide_eq_false (by omega)]; rfl
   refine⟨(q:Int),?_,?_⟩
   ·unfold gf
    simp only[w0,x1,x2]
    rw[zb ⟨by omega,λ_=>by omega⟩,z8 ec,z7]
   ·have hq2:q<=Q:=by
     rw[<- hQ,Nat.le_div_iff_mul_le hV]
     exact D3 hqr (by omega)
    omega
 obtain⟨r,hr,rfl⟩:=loop
 unfold dC
 have e7:zO (((u2*4294967296+u1) / v1:Nat):Int)=(((u2*4294967296+u1) / v1:Nat):Int):=yM (by omega)
 simp only[w1,w2,x1,e1,e2,e3,e4,e7]
 rw[uQ _ (by omega),vj _ (by omega),vj _ (by omega),z6 hr,z7]
theorem KZ{x y b:Nat}(hx:x<4294967296)(hy:y<4294967296)(hb:b<=1) :
  (uT (x:Int) (y:Int) (b:Int)).run=some ((((x+4294967296*(if x<y+b then 1 else 0))-(y+b):Nat):Int),((if x<y+b then 1 else 0:Nat):Int)):=by
 have e1:=zcg hx hy hb
 have e2:=R5 hx hy hb rfl
 unfold uT
 rw[uQ _ (by omega),e1,e2,z7]
 have e3:(x+4294967296*(if x<y+b then 1 else 0))-y-b=(x+4294967296*(if x<y+b then 1 else 0))-(y+b):=by omega
 rw[e3]
 split<;>rfl
theorem NW{x y b:Nat}(hx:x<4294967296)(hy:y<4294967296)(hb:b<=1) :
  (yk (x:Int) (y:Int) (b:Int)).run=some ((((x+y+b) % 4294967296:Nat):Int),(((x+y+b) / 4294967296:Nat):Int)):=by
 have e:zO (zO ((x:Int)+(y:Int))+(b:Int))=((x+y+b:Nat):Int):=by rw[qm (x:=(x:Int)+y) (by omega) (by omega),qm (by omega) (by omega)]; omega
 unfold yk
 rw[uQ _ (by omega),yM (by omega),yM (by omega),yM (by omega),e,X2,JR,sV (by omega),z7]
theorem yI(xs:List Int)(o i:Nat)(x:Int):(xs.set (o+i) x).drop o=(xs.drop o).set i x:=by
 rw[List.drop_set,if_neg (by omega)]; congr 1; omega
theorem eW(xs:List Int)(o i:Nat):lm (xs.drop o) i=lm xs (o+i):=by
 unfold lm nth
 rw[show(((o+i:Nat):Int)).toNat=o+i by omega,Int.toNat_natCast]
 simp[List.getD_eq_getElem?_getD,List.getElem?_drop]
theorem PY{X X' P N c bo q v w lo hi d Y k:Nat}(h:X+q*N=Y+(bo+c)*P)(hs:X'+P*w=X+P*d)(hc:c+q*v=lo+4294967296*hi)(hd:d+(lo+bo)=w+4294967296*k) :
  X'+q*(N+P*v)=Y+(k+hi)*(P*4294967296):=by
 have e1:P*(d+(lo+bo))=P*(w+4294967296*k):=by rw[hd]
 have e2:P*(c+q*v)=P*(lo+4294967296*hi):=by rw[hc]
 have e3:X'+P*w+q*N+P*(c+q*v)+P*(lo+bo)=X'+q*(N+P*v)+(P*w+P*c+P*(lo+bo)):=by grind
 have e4:X'+P*w+q*N+P*(c+q*v)+P*(lo+bo)=Y+(k+hi)*(P*4294967296)+(P*w+P*c+P*(lo+bo)):=by
  rw[hs,e2]
  have e5:X+P*d+q*N+P*(lo+4294967296*hi)+P*(lo+bo)=(X+q*N)+P*(d+(lo+bo))+P*(lo+4294967296*hi):=by grind
  rw[e5,e1,h]; grind
 omega
theorem zaI{c q v:Nat}(hc:c<4294967296)(hq:q<4294967296)(hv:v<4294967296):zO ((c:Int)+zO ((q:Int)*(v:Int)))=((c+q*v:Nat):Int)/\(c+q*v) / 4294967296<4294967296:=by
 have h:=lH hq hv
 have e:(q:Int)*(v:Int)=((q*v:Nat):Int):=by simp
 rw[e]
 generalize q*v=z at *
 rw[qm (x:=(z:Int)) (by omega) (by omega),qm (by omega) (by omega)]
 omega
theorem z8Y(b:List Int)(hb:zm b)(lb:b.length<=1000000000)(q:Nat)(hq:q<4294967296)(u:List Int)(hu:zm u)(o:Nat)(ho:o+b.length<u.length) :
  ∃ r:(Nat×Nat)×Int×Int×List Int,(pO b (q:Int) b (b.length:Int) ((o,b.length+1),0,0,0,u)).run=some r/\r.1=(o,b.length+1)/\∃ c bo:Nat,r.2.1=(c:Int)/\r.2.2.1=(bo:Int)/\c<4294967296/\bo<=1/\zm r.2.2.2 /\
   r.2.2.2.length=u.length/\r.2.2.2.take o=u.take o/\(r.2.2.2.drop o).drop b.length=(u.drop o).drop b.length/\nv (r.2.2.2.drop o)+q*nv b=nv (u.drop o)+(bo+c)*4294967296 ^ b.length:=by
 refine T.qI (λs:(Nat×Nat)×Int×Int×Int×List Int=>s.1=(o,b.length+1)/\∃ c bo i:Nat,s.2.1=(c:Int)/\s.2.2.1=(bo:Int)/\s.2.2.2.1=(i:Int)/\c<4294967296/\bo<=1/\i<=b.length/\zm s.2.2.2.2 /\
   s.2.2.2.2.length=u.length/\s.2.2.2.2.take o=u.take o/\(s.2.2.2.2.drop o).drop i=(u.drop o).drop i/\nv (s.2.2.2.2.drop o)+q*nv (b.take i)=nv (u.drop o)+(bo+c)*4294967296 ^ i)
  (λs=>b.length-s.2.2.2.1.toNat) _ ?_ ⟨rfl,0,0,0,rfl,rfl,rfl,by omega,by omega,by omega,hu,rfl,rfl,rfl,by simp⟩
 rintro⟨_,_,_,_,xs⟩ ⟨rfl,c,bo,i,rfl,rfl,rfl,hc,hbo,hi,hl,hn,ht,hd,hv⟩
 simp only at hl hn ht hd hv ⊢
 by_cases qu:i<b.length
 ·left
  have hw:=wk hb i
  have hx:=wk hl (o+i)
  obtain⟨m1,m2⟩:=zaI hc hq hw
  have hs:=KZ hx (show(c+q*lm b i) % 4294967296<4294967296 by omega) hbo
  have OW:lm xs (o+i)+4294967296*(if lm xs (o+i)<(c+q*lm b i) % 4294967296+bo then 1 else 0)-((c+q*lm b i) % 4294967296+bo)<4294967296:=by split<;>omega
  have Pg:(if lm xs (o+i)<(c+q*lm b i) % 4294967296+bo then 1 else 0)<=1:=by split<;>omega
  have hde:lm xs (o+i)+4294967296*(if lm xs (o+i)<(c+q*lm b i) % 4294967296+bo then 1 else 0)-((c+q*lm b i) % 4294967296+bo)+((c+q*lm b i) % 4294967296+bo)=lm xs (o+i)+4294967296*(if lm xs (o+i)<(c+q*lm b i) % 4294967296+bo then 1 else 0):=by split<;>omega
  generalize hD:lm xs (o+i)+4294967296*(if lm xs (o+i)<(c+q*lm b i) % 4294967296+bo then 1 else 0)-((c+q*lm b i) % 4294967296+bo)=D at *
  generalize hB:(if lm xs (o+i)<(c+q*lm b i) % 4294967296+bo then 1 else 0)=B2 at *
  refine⟨((o,b.length+1),((((c+q*lm b i) / 4294967296:Nat)):Int),(B2:Int),((i+1:Nat):Int),xs.set (o+i) (D:Int)),?_,
   ⟨rfl,(c+q*lm b i) / 4294967296,B2,i+1,rfl,rfl,rfl,m2,Pg,by omega,xL hl _ OW,by simpa using hn,?_,?_,?_⟩,by simp; omega⟩
  ·unfold hM
   have ew:zO (lm b i:Int)=lm b i:=yM (by omega)
   simp only[xn,wR hb,Int.toNat_natCast,jr hl,ew,m1,JR,X2,i1 i (by omega)]
   rw[za (by simp; omega),qp _ (by omega) (by omega),qp _ (by omega) (by omega),jG _ rfl (by omega),z6 hs]
   simp only
   rw[qp _ (by omega) (by omega),jG _ rfl (by omega),uQ _ (by omega),zb rfl,vk _ (by simp),z7]
  ·simp only
   rw[List.take_set_of_le (by omega),ht]
  ·simp only
   rw[yI,j5]
   have:=congrArg (List.drop 1) hd
   rw[List.drop_drop,List.drop_drop,]at this
   simpa[Nat.add_assoc,Nat.add_comm]using this
  ·simp only
   rw[yI,zY,Nat.pow_succ]
   have b9:=Xu (a:=xs.drop o) (i:=i) (D:Int) (by simp; omega)
   rw[Int.toNat_natCast,eW]at b9
   exact PY (lo:=(c+q*lm b i) % 4294967296) hv b9 (by generalize c+q*lm b i=z; omega) hde
 ·right
  have:i=b.length:=by omega
  subst this
  refine⟨((o,b.length+1),(c:Int),(bo:Int),xs),?_,rfl,c,bo,rfl,rfl,hc,hbo,hl,hn,ht,hd,by simpa[List.take_length]using hv⟩
  unfold hM
  simp
theorem RR{X X' P N m v w d hi Y:Nat}(h:X+m*P=Y+N)(hs:X'+P*w=X+P*d)(hd:d+4294967296*hi=w+v+m):X'+hi*(P*4294967296)=Y+(N+P*v):=by
 have e1:P*(d+4294967296*hi)=P*(w+v+m):=by rw[hd]
 have e2:X'+hi*(P*4294967296)+(P*w+P*m)=Y+(N+P*v)+(P*w+P*m):=by
  have e3:X'+hi*(P*4294967296)+(P*w+P*m)=(X'+P*w)+P*(4294967296*hi)+P*m:=by grind
  rw[e3,hs]
  have e4:X+P*d+P*(4294967296*hi)+P*m=(X+m*P)+P*(d+4294967296*hi):=by grind
  rw[e4,e1,h]; grind
 omega
theorem z6y(b:List Int)(hb:zm b)(lb:b.length<=1000000000)(u:List Int)(hu:zm u)(o:Nat)(ho:o+b.length<u.length) :
  ∃ r:(Nat×Nat)×Int×List Int,(r9 b b (b.length:Int) ((o,b.length+1),0,0,u)).run=some r/\r.1=(o,b.length+1)/\∃ m:Nat,r.2.1=(m:Int)/\m<=1/\zm r.2.2 /\
   r.2.2.length=u.length/\r.2.2.take o=u.take o/\(r.2.2.drop o).drop b.length=(u.drop o).drop b.length/\nv (r.2.2.drop o)+m*4294967296 ^ b.length=nv (u.drop o)+nv b:=by
 refine T.qI (λs:(Nat×Nat)×Int×Int×List Int=>s.1=(o,b.length+1)/\∃ m i:Nat,s.2.1=(m:Int)/\s.2.2.1=(i:Int)/\m<=1/\i<=b.length/\zm s.2.2.2 /\
   s.2.2.2.length=u.length/\s.2.2.2.take o=u.take o/\(s.2.2.2.drop o).drop i=(u.drop o).drop i/\nv (s.2.2.2.drop o)+m*4294967296 ^ i=nv (u.drop o)+nv (b.take i))
  (λs=>b.length-s.2.2.1.toNat) _ ?_ ⟨rfl,0,0,rfl,rfl,by omega,by omega,hu,rfl,rfl,rfl,by simp⟩
 rintro⟨_,_,_,xs⟩ ⟨rfl,m,i,rfl,rfl,hm,hi,hl,hn,ht,hd,hv⟩
 simp only at hl hn ht hd hv ⊢
 by_cases qu:i<b.length
 ·left
  have hw:=wk hb i
  have hx:=wk hl (o+i)
  have hs:=NW hx hw hm
  refine⟨((o,b.length+1),(((lm xs (o+i)+lm b i+m) / 4294967296:Nat):Int),((i+1:Nat):Int),xs.set (o+i) (((lm xs (o+i)+lm b i+m) % 4294967296:Nat):Int)),?_,
   ⟨rfl,_,i+1,rfl,rfl,by omega,by omega,xL hl _ (by omega),by simpa using hn,?_,?_,?_⟩,by simp; omega⟩
  ·unfold gN
   simp only[xn,wR hb,Int.toNat_natCast,jr hl,i1 i (by omega)]
   rw[za (by simp; omega),qp _ (by omega) (by omega),qp _ (by omega) (by omega),jG _ rfl (by omega),z6 hs]
   simp only
   rw[qp _ (by omega) (by omega),jG _ rfl (by omega),zb rfl,vk _ (by simp),z7]
  ·simp only
   rw[List.take_set_of_le (by omega),ht]
  ·simp only
   rw[yI,j5]
   have:=congrArg (List.drop 1) hd
   rw[List.drop_drop,List.drop_drop,]at this
   simpa[Nat.add_assoc,Nat.add_comm]using this
  ·simp only
   rw[yI,zY,Nat.pow_succ]
   have b9:=Xu (a:=xs.drop o) (i:=i) (((lm xs (o+i)+lm b i+m) % 4294967296:Nat):Int) (by simp; omega)
   rw[Int.toNat_natCast,eW]at b9
   exact RR hv b9 (by omega)
 ·right
  have:i=b.length:=by omega
  subst this
  refine⟨((o,b.length+1),(m:Int),xs),?_,rfl,m,rfl,hm,hl,hn,ht,hd,by simpa[List.take_length]using hv⟩
  unfold gN
  simp
theorem oh{D:List Int}(hl:zm D)(k:Nat)(hk:k<=D.length)(h:nv D<4294967296 ^ k):nv (D.drop k)=0:=by
 have h1:=kS D k hk
 rcases Nat.eq_zero_or_pos (nv (D.drop k))with z | z
 ·exact z
 ·have:=Nat.mul_le_mul_left (4294967296 ^ k) z
  omega
theorem ZA{D:List Int}(hl:zm D)(k:Nat)(hk:k<=D.length)(h:nv (D.drop k)=0):nv D<4294967296 ^ k:=by
 have h1:=kS D k hk
 have h2:=uu hl k
 rw[h]at h1; omega
theorem SL{X X' P q N c bo w d Y k:Nat}(h:X+q*N=Y+(bo+c)*P)(hs:X'+P*w=X+P*d)(hd:d+(c+bo)=w+4294967296*k):X'+q*N=Y+k*(P*4294967296):=by
 have e1:P*(d+(c+bo))=P*(w+4294967296*k):=by rw[hd]
 have e2:X'+q*N+(P*w+P*(c+bo))=Y+k*(P*4294967296)+(P*w+P*(c+bo)):=by
  have e3:X'+q*N+(P*w+P*(c+bo))=(X'+P*w)+q*N+P*(c+bo):=by grind
  rw[e3,hs]
  have e4:X+P*d+q*N+P*(c+bo)=(X+q*N)+P*(d+(c+bo)):=by grind
  rw[e4,h,e1]; grind
 omega
theorem T5{Z Y X U P L m p N:Nat}(h1:Z+P*L=Y+P*((L+m) % 4294967296))(h2:Y+m*P=X+N)(h3:X+(p+1)*N=U+1*(P*4294967296))(h4:Z<P*4294967296)(h5:(p+1)*N<=U+N)
  (hm:m<=1) (hL:L<4294967296):Z+(p+1-1)*N=U:=by
 rw[ER]at h3 h5
 rw[Nat.add_sub_cancel]
 rw[Nat.mul_comm m P]at h2
 by_cases hov:L+m<4294967296
 ·rw[Nat.mod_eq_of_lt hov,Nat.mul_add]at h1
  generalize P*L=a at *
  generalize P*m=b at *
  generalize p*N=c at *
  omega
 ·have zgz:(L+m) % 4294967296=0:=by omega
  have e5:P*(L+m)=P*4294967296:=by congr 1; omega
  rw[zgz,Nat.mul_zero]at h1
  rw[Nat.mul_add]at e5
  generalize P*L=a at *
  generalize P*m=b at *
  generalize p*N=c at *
  omega
theorem OD(b:List Int)(hb:zm b)(lb:b.length<=1000000000)(q:Nat)(hq:q<4294967296)(u:List Int)(hu:zm u)(lu:u.length<=4000000000)(o:Nat)(ho:o+b.length<u.length)
  (UH:nv (u.drop o)<4294967296 ^ (b.length+1)) (zd9:q*nv b<=nv (u.drop o)+nv b) :
  ∃ xs:List Int,(fZ (o,b.length+1) b (q:Int) u).run=some (decide (nv (u.drop o)<q*nv b),xs)/\zm xs/\xs.length=u.length/\xs.take o=u.take o /\
   nv (xs.drop o)+(if nv (u.drop o)<q*nv b then q-1 else q)*nv b=nv (u.drop o):=by
 obtain⟨⟨_,_,_,xs⟩,hr,rfl,c,bo,rfl,rfl,hc,hbo,hl,hn,ht,hd,hv⟩:=z8Y b hb lb q hq u hu o ho
 simp only at hl hn ht hd hv
 have hBl:=yN hb
 have hx:=wk hl (o+b.length)
 have hs:=KZ hx hc hbo
 have OW:lm xs (o+b.length)+4294967296*(if lm xs (o+b.length)<c+bo then 1 else 0)-(c+bo)<4294967296:=by split<;>omega
 have Pg:(if lm xs (o+b.length)<c+bo then 1 else 0)<=1:=by split<;>omega
 have hde:lm xs (o+b.length)+4294967296*(if lm xs (o+b.length)<c+bo then 1 else 0)-(c+bo)+(c+bo)=lm xs (o+b.length)+4294967296*(if lm xs (o+b.length)<c+bo then 1 else 0):=by split<;>omega
 generalize lm xs (o+b.length)+4294967296*(if lm xs (o+b.length)<c+bo then 1 else 0)-(c+bo)=D at *
 generalize (if lm xs (o+b.length)<c+bo then 1 else 0)=B2 at *
 have b9:=Xu (a:=xs.drop o) (i:=b.length) (D:Int) (by simp; omega)
 rw[Int.toNat_natCast,eW,<- yI]at b9
 have z7i:=SL hv b9 hde
 have hl1:zm (xs.set (o+b.length) (D:Int)):=xL hl _ OW
 have C5:(xs.set (o+b.length) (D:Int)).length=u.length:=by simpa using hn
 have ht1:(xs.set (o+b.length) (D:Int)).take o=u.take o:=by rw[List.take_set_of_le (by omega),ht]
 have Fb:((xs.set (o+b.length) (D:Int)).drop o).drop (b.length+1)=(u.drop o).drop (b.length+1):=by
  rw[yI,j5]
  have:=congrArg (List.drop 1) hd
  rw[List.drop_drop,List.drop_drop]at this
  simpa[Nat.add_assoc,Nat.add_comm]using this
 have hz:=oh (eS hu o) (b.length+1) (by simp; omega) UH
 have Rf:nv ((xs.set (o+b.length) (D:Int)).drop o)<4294967296 ^ (b.length+1):=ZA (eS hl1 o) _ (by simp; omega) (by rw[Fb]; exact hz)
 have zh3:(4294967296:Nat) ^ (b.length+1)=4294967296 ^ b.length*4294967296:=Nat.pow_succ ..
 have ec:xR (c:Int)=c:=sV hc
 unfold fZ
 rw[vk _ rfl,vk _ rfl,z6 hr]
 simp only[Int.toNat_natCast,xn,jr hl,ec]
 rw[qp _ (by omega) (by omega),jG _ rfl (by omega),z6 hs]
 simp only
 rw[qp _ (by omega) (by omega),jG _ rfl (by omega)]
 generalize hX:xs.set (o+b.length) (D:Int)=X at *
 rcases Nat.eq_zero_or_pos B2 with z | z
 ·subst z
  rw[za (by simp),vk _ (by omega),z7]
  have FP:¬ (nv (u.drop o)<q*nv b):=by omega
  refine⟨X,by rw[decide_eq_false FP],hl1,C5,ht1,?_⟩
  rw[if_neg FP]; omega
 ·have hB2:B2=1:=by omega
  subst hB2
  have qu:nv (u.drop o)<q*nv b:=by omega
  obtain⟨⟨_,_,ys⟩,hr2,rfl,m,rfl,hm,fy,JF,Y5,hd2,Qa⟩:=z6y b hb lb X hl1 o (by omega)
  simp only at fy JF Y5 hd2 Qa
  have hy:=wk fy (o+b.length)
  have eu:xR ((lm ys (o+b.length):Int)+(m:Int))=(((lm ys (o+b.length)+m) % 4294967296:Nat):Int):=by rw[<- JR]; rfl
  rw[z8 (by simp),zb rfl,vk _ (by omega),z6 hr2]
  simp only[Int.toNat_natCast,xn,jr fy,eu]
  rw[qp _ (by omega) (by omega),jG _ rfl (by omega),qp _ (by omega) (by omega),jG _ rfl (by omega),vk _ (by simp),z7]
  have z4P:=Xu (a:=ys.drop o) (i:=b.length) (((lm ys (o+b.length)+m) % 4294967296:Nat):Int) (by simp; omega)
  rw[Int.toNat_natCast,eW,<- yI]at z4P
  have hl3:zm (ys.set (o+b.length) (((lm ys (o+b.length)+m) % 4294967296:Nat):Int)):=xL fy _ (by omega)
  have hd3:((ys.set (o+b.length) (((lm ys (o+b.length)+m) % 4294967296:Nat):Int)).drop o).drop (b.length+1)=(u.drop o).drop (b.length+1):=by
   rw[yI,j5,<- Fb]
   have:=congrArg (List.drop 1) hd2
   rw[List.drop_drop,List.drop_drop]at this
   simpa[Nat.add_assoc,Nat.add_comm]using this
  have zdR:nv ((ys.set (o+b.length) (((lm ys (o+b.length)+m) % 4294967296:Nat):Int)).drop o)<4294967296 ^ (b.length+1):=ZA (eS hl3 o) _ (by simp; omega) (by rw[hd3]; exact hz)
  refine⟨_,by rw[decide_eq_true qu],hl3,by simp; omega,?_,?_⟩
  ·rw[List.take_set_of_le (by omega),Y5,ht1]
  ·rw[if_pos qu]
   generalize nv ((ys.set (o+b.length) (((lm ys (o+b.length)+m) % 4294967296:Nat):Int)).drop o)=Z at *
   obtain⟨p,rfl⟩:∃ p,q=p+1:=⟨q-1,by
    rcases Nat.eq_zero_or_pos q with h | h
    ·subst h; omega
    ·omega⟩
   rw[zh3]at zdR
   exact T5 z4P Qa z7i zdR zd9 hm hy
def mW:ze:=[0,1,2,2,3,3,3,3,4,4,4,4,4,4,4,4]++List.replicate 16 5++List.replicate 32 6++List.replicate 64 7++List.replicate 128 8
theorem Nv:∀ y:Fin 256,y.val≠0->1<=(mW.getD y.val 0).toNat/\(mW.getD y.val 0).toNat<=8/\2 ^ ((mW.getD y.val 0).toNat-1)<=y.val/\y.val<2 ^ (mW.getD y.val 0).toNat:=by decide +kernel
set_option maxRecDepth 100000 in
theorem Fe:mW.length=256:=by decide +kernel
theorem len8{y:Nat}(h0:0<y)(h:y<256):∃ t:Nat,qo mW (y:Int)=(t:Int)/\1<=t/\t<=8/\2 ^ (t-1)<=y/\y<2 ^ t:=by
 have:=Nv ⟨y,h⟩ (by simp; omega)
 refine⟨(mW.getD y 0).toNat,?_,this⟩
 unfold qo
 rw[Int.toNat_natCast]
theorem HL{x s:Nat}(hs:s<=32):wH .u32 (x:Int) (s:Int)=((x / 2 ^ s:Nat):Int):=by
 have e:min (s:Int).toNat 32=s:=by simp; omega
 show Int.fdiv (x:Int) (2 ^ (min (s:Int).toNat 32))=_
 rw[e]
 have e2:(2:Int) ^ s=((2 ^ s:Nat):Int):=by simp
 rw[e2,Int.fdiv_eq_ediv_of_nonneg _ (Int.natCast_nonneg _)]; rfl
set_option maxRecDepth 100000 in
theorem Ou{x:Nat}(h0:0<x)(h:x<4294967296):∃ t:Nat,(yl (x:Int)).run=some (t:Int)/\1<=t/\t<=32/\2 ^ (t-1)<=x/\x<2 ^ t:=by
 have zfi:yl (x:Int)=(.zL (((decide ((65536:Int)<=(x:Int)))=true)->((0:Int)<=(16:Int))) <|
  .zL (((decide ((256:Int)<=(bif (decide ((65536:Int)<=(x:Int)))then(wH .u32 (x:Int) (16:Int))else(x:Int))))=true)->((0:Int)<=(8:Int))) <|
  .zL (qw (Bg (bif (decide ((256:Int)<=(bif (decide ((65536:Int)<=(x:Int)))then(wH .u32 (x:Int) (16:Int))else(x:Int))))then(wH .u32 (bif (decide ((65536:Int)<=(x:Int)))then(wH .u32 (x:Int) (16:Int))else(x:Int)) (8:Int))else(bif (decide ((65536:Int)<=(x:Int)))then(wH .u32 (x:Int) (16:Int))else(x:Int)))) mW.length) <|
  .ret (zF ((bif (decide ((256:Int)<=(bif (decide ((65536:Int)<=(x:Int)))then(wH .u32 (x:Int) (16:Int))else(x:Int))))then(zF ((bif (decide ((65536:Int)<=(x:Int)))then(16:Int)else(0:Int))+(8:Int)))else(bif (decide ((65536:Int)<=(x:Int)))then(16:Int)else(0:Int)))+(zF (qo mW (Bg (bif (decide ((256:Int)<=(bif (decide ((65536:Int)<=(x:Int)))then(wH .u32 (x:Int) (16:Int))else(x:Int))))then(wH .u32 (bif (decide ((65536:Int)<=(x:Int)))then(wH .u32 (x:Int) (16:Int))else(x:Int)) (8:Int))else(bif (decide ((65536:Int)<=(x:Int)))then(wH .u32 (x:Int) (16:Int))else(x:Int)))))))):T Int):=by rfl
 rw[zfi,Fe]
 -- y: what is left; k: how many bits ahead of it
 obtain⟨y,k,e1,e2,hk,hy0,hy,hlo,hhi⟩:∃ y k:Nat,(bif (decide ((256:Int)<=(bif (decide ((65536:Int)<=(x:Int)))then(wH .u32 (x:Int) (16:Int))else(x:Int))))then(wH .u32 (bif (decide ((65536:Int)<=(x:Int)))then(wH .u32 (x:Int) (16:Int))else(x:Int)) (8:Int))else(bif (decide ((65536:Int)<=(x:Int)))then(wH .u32 (x:Int) (16:Int))else(x:Int)))=(y:Int) /\
   (bif (decide ((256:Int)<=(bif (decide ((65536:Int)<=(x:Int)))then(wH .u32 (x:Int) (16:Int))else(x:Int))))then(zF ((bif (decide ((65536:Int)<=(x:Int)))then(16:Int)else(0:Int))+(8:Int)))else(bif (decide ((65536:Int)<=(x:Int)))then(16:Int)else(0:Int)))=(k:Int) /\
   k<=24/\0<y/\y<256/\y*2 ^ k<=x/\x<(y+1)*2 ^ k:=by
  have s16:wH .u32 (x:Int) 16=((x / 65536:Nat):Int):=HL (s:=16) (by omega)
  have s8:∀ z:Nat,wH .u32 (z:Int) 8=((z / 256:Nat):Int):=λz=>HL (s:=8) (by omega)
  by_cases c1:65536<=x
  ·rw[show decide ((65536:Int)<=(x:Int))=true from decide_eq_true (by omega)]
   simp only[cond_true,s16]
   by_cases c2:256<=x / 65536
   ·rw[show decide ((256:Int)<=((x / 65536:Nat):Int))=true from decide_eq_true (by omega)]
    simp only[cond_true,s8]
    exact⟨x / 65536 / 256,24,rfl,by decide,by omega,by omega,by omega,by omega,by omega⟩
   ·rw[show decide ((256:Int)<=((x / 65536:Nat):Int))=false from decide_eq_false (by omega)]
    simp only[cond_false]
    exact⟨x / 65536,16,rfl,rfl,by omega,by omega,by omega,by omega,by omega⟩
  ·rw[show decide ((65536:Int)<=(x:Int))=false from decide_eq_false (by omega)]
   simp only[cond_false]
   by_cases c2:256<=x
   ·rw[show decide ((256:Int)<=(x:Int))=true from decide_eq_true (by omega)]
    simp only[cond_true,s8]
    exact⟨x / 256,8,rfl,by decide,by omega,by omega,by omega,by omega,by omega⟩
   ·rw[show decide ((256:Int)<=(x:Int))=false from decide_eq_false (by omega)]
    simp only[cond_false]
    exact⟨x,0,rfl,rfl,by omega,by omega,by omega,by omega,by omega⟩
 obtain⟨t,t1,t2,t3,t4,t5⟩:=len8 hy0 hy
 rw[e1,e2,Gq (by omega) (by omega),t1,zA (x:=(t:Int)) (by omega) (by omega),zA (by omega) (by omega)]
 refine⟨k+t,?_,by omega,by omega,?_,?_⟩
 ·rw[zb (λ_=>by omega),zb (λ_=>by omega),qp _ (by omega) (by omega),z7]; rfl
 ·rw[show k+t-1=(t-1)+k by omega,Nat.pow_add]
  exact Nat.le_trans (Nat.mul_le_mul_right _ t4) hlo
 ·rw[show k+t=t+k by omega,Nat.pow_add]
  exact Nat.lt_of_lt_of_le hhi (Nat.mul_le_mul_right _ t5)
theorem Tk{x:Nat}(h0:0<x)(h:x<4294967296):∃ s:Nat,(wD (x:Int)).run=some (s:Int)/\s<32/\2147483648<=x*2 ^ s/\x*2 ^ s<4294967296:=by
 obtain⟨t,t1,t2,t3,t4,t5⟩:=Ou h0 h
 refine⟨32-t,?_,by omega,?_,?_⟩
 ·unfold wD
  rw[z6 t1,z7,zA (by omega) (by omega)]
  congr 1; omega
 ·have:=Nat.mul_le_mul_right (2 ^ (32-t)) t4
  rw[<- Nat.pow_add,show t-1+(32-t)=31 by omega]at this
  exact this
 ·have:=Nat.mul_lt_mul_of_pos_right t5 (show 0<2 ^ (32-t)from Nat.pow_pos (by omega))
  rw[<- Nat.pow_add,show t+(32-t)=32 by omega]at this
  exact this
theorem horner(a b c:Nat):(a*4294967296+b)*4294967296+c=a*18446744073709551616+b*4294967296+c:=by
 rw[Nat.add_mul,Nat.mul_assoc]
theorem EB{u2 u1 u0 v1 v2:Nat}(h2:u2<4294967296)(h1:u1<4294967296)(h0:u0<4294967296)(hv1:v1<4294967296)(Qa:v2<4294967296)(hn:2147483648<=v1)
  (ht:(u2*4294967296+u1)*4294967296+u0<(v1*4294967296+v2+1)*4294967296) :
  (dC (u2:Int) (u1:Int) (u0:Int) (v1:Int) (v2:Int)).run=some ((min (((u2*4294967296+u1)*4294967296+u0) / (v1*4294967296+v2)) 4294967295:Nat):Int):=by
 rw[horner]at ht ⊢
 exact ND h2 h1 h0 hv1 Qa hn ht
theorem Rh(a b P t:Nat):t+P*b+P*4294967296*a=(a*4294967296+b)*P+t:=by grind
theorem zbm(d:List Int)(n:Nat)(hn:d.length=n+2):nv d=(lm d (n+1)*4294967296+lm d n)*4294967296 ^ n+nv (d.take n):=by
 have h1:=zY d n
 have h2:=zY d (n+1)
 rw[qC (by omega)]at h2
 rw[h2,h1,Nat.pow_succ,Rh]
theorem Sc{B a b c P t0 t1 t2 t3:Nat}(h1:t1=t0+P*c)(h2:t2=t1+P*B*b)(h3:t3=t2+P*B*B*a):t3=((a*B+b)*B+c)*P+t0:=by
 rw[h3,h2,h1]; grind
theorem zgM(w:List Int)(n:Nat)(h:nv (w.drop (n+1+1+1))=0):nv w=((lm w (n+1+1)*4294967296+lm w (n+1))*4294967296+lm w n)*4294967296 ^ n+nv (w.take n):=by
 have h0:nv w=nv (w.take (n+1+1+1)):=by
  by_cases c:n+1+1+1<=w.length
  ·have:=kS w (n+1+1+1) c
   rw[h,Nat.mul_zero,Nat.add_zero]at this; exact this
  ·rw[qC (by omega)]
 have h1:=zY w n
 have h2:=zY w (n+1)
 have h3:=zY w (n+1+1)
 rw[Nat.pow_succ]at h2
 rw[Nat.pow_succ,Nat.pow_succ,<- h0]at h3
 exact Sc h1 h2 h3
theorem Ey{a b:List Int}{k i:Nat}(h:a.take k=b.take k)(hi:i<k):lm a i=lm b i:=by
 have e:=congrArg (λl=>l[i]?) h
 simp only[List.getElem?_take,if_pos hi]at e
 unfold lm nth
 rw[List.getD_eq_getElem?_getD,List.getD_eq_getElem?_getD,Int.toNat_natCast,e]
theorem z8G{U3 V2 D X Y U V:Nat}(hU:U=U3*D+X)(hV:V=V2*D+Y)(hY:Y<D)(hUV:U<V*4294967296):U3<(V2+1)*4294967296:=by
 have h1:U3*D<(V2+1)*4294967296*D:=by
  have e:(V2+1)*4294967296*D=(V2*D+D)*4294967296:=by grind
  rw[e]
  have:V*4294967296<=(V2*D+D)*4294967296:=Nat.mul_le_mul_right _ (by omega)
  omega
 exact Nat.lt_of_mul_lt_mul_right h1
theorem Of(d:List Int)(hd:zm d)(n:Nat)(hn:d.length=n+2)(BZ:2147483648<=lm d (n+1))(w:List Int)(hw:zm w)(hwl:n+1+1+1<=w.length)(hW:nv w<nv d*4294967296) :
  ∃ x:Nat,(dC (lm w (n+1+1):Int) (lm w (n+1):Int) (lm w n:Int) (lm d (n+1):Int) (lm d n:Int)).run=some (x:Int)/\x<4294967296/\nv w / nv d<=x/\x<=nv w / nv d+1/\nv w<4294967296 ^ (d.length+1):=by
 have OW:=yN hd
 have hdt:=zbm d n hn
 have hdn:=uu hd n
 have hWp:nv w<4294967296 ^ (d.length+1):=by
  rw[Nat.pow_succ]
  exact Nat.lt_of_lt_of_le hW (Nat.mul_le_mul_right _ (Nat.le_of_lt OW))
 have hz:=oh hw (d.length+1) (by omega) hWp
 rw[show d.length+1=n+1+1+1 by omega]at hz
 have ht3:=zgM w n hz
 have hwn:=uu hw n
 have hU3:=z8G ht3 hdt hdn hW
 refine⟨_,EB (wk hw _) (wk hw _) (wk hw _) (wk hd _) (wk hd _) BZ hU3,?_,?_,?_,hWp⟩
 ·exact Nat.lt_of_le_of_lt (Nat.min_le_right _ _) (by decide)
 ·refine(Ml ht3 hwn hdt hdn ?_ hW rfl).1
  exact Nat.le_trans (Nat.mul_le_mul_right 4294967296 BZ) (Nat.le_add_right _ _)
 ·refine(Ml ht3 hwn hdt hdn ?_ hW rfl).2
  exact Nat.le_trans (Nat.mul_le_mul_right 4294967296 BZ) (Nat.le_add_right _ _)
theorem zhb{W V x:Nat}(g2:x<=W / V+1):x*V<=W+V:=by
 have h1:=Nat.mul_le_mul_right V g2
 have h2:=Nat.div_mul_le_self W V
 rw[Nat.add_mul,Nat.one_mul]at h1
 omega
theorem digit{W V x:Nat}(hV:0<V)(g1:W / V<=x)(g2:x<=W / V+1):(if W<x*V then x-1 else x)=W / V:=by
 have hdm:=Nat.div_add_mod W V
 have hml:=Nat.mod_lt W hV
 have hz:0<=W / V:=Nat.zero_le _
 split
 ·rename_i c
  have:x≠W / V:=by
   intro h
   rw[h,Nat.mul_comm]at c; omega
  generalize W / V=z at *
  omega
 ·rename_i c
  have hle:x<=W / V:=(Nat.le_div_iff_mul_le hV).2 (by omega)
  exact Nat.le_antisymm hle g1
theorem z7D{l N V:Nat}(hl:l<4294967296)(hN:N<V):l+4294967296*N<V*4294967296:=by
 have:=Nat.mul_le_mul_left 4294967296 (show N+1<=V from hN)
 omega
theorem OE{l N Q V z r R:Nat}(h:r+z*V=l+4294967296*N)(hR:R=Q*V+N):l+4294967296*R=(z+4294967296*Q)*V+r:=by
 rw[hR]
 have e:(z+4294967296*Q)*V+r=(r+z*V)+4294967296*(Q*V):=by grind
 rw[e,h]; omega
theorem FX(d:List Int)(hd:zm d)(n:Nat)(hn:d.length=n+2)(ln:n<=999999990)(BZ:2147483648<=lm d (n+1))(y:Int)(i:Nat)(li:i<=1000000000)(u q:List Int)(hl:zm u)(lu:u.length<=2000000000)(hiu:i+d.length<u.length)
  (hq:zm q) (hiq:i<q.length) (qu:nv (u.drop (i+1))<nv d) :
  ∃ (xs:List Int) (z:Nat),(c9 y d ((n+2:Nat):Int) ((i:Int),u,q)).run=some (.inl ((i:Int)-1,xs,q.set i (z:Int)))/\z<4294967296/\zm xs/\xs.length=u.length/\xs.take i=u.take i/\nv (xs.drop i)<nv d /\
   nv (xs.drop i)+z*nv d=lm u i+4294967296*nv (u.drop (i+1)):=by
 have hwd:=sj (a:=u) (i:=i) (by omega)
 have hW:=z7D (wk hl i) qu
 rw[<- hwd]at hW
 obtain⟨x,hg,hx,g1,g2,hWp⟩:=Of d hd n hn BZ (u.drop i) (eS hl i) (by rw[List.length_drop]; omega) hW
 have hdp:0<nv d:=Nat.lt_of_le_of_lt (Nat.zero_le _) qu
 obtain⟨xs,hr,JY,hxn,hxt,Ed⟩:=OD d hd (by omega) x hx u hl (by omega) i hiu hWp (zhb g2)
 have z7v:=digit hdp g1 g2
 rw[z7v]at Ed
 rw[eW,eW,eW]at hg
 have hdq:nv (u.drop i) / nv d<4294967296:=Nat.lt_of_le_of_lt g1 hx
 have z6J:nv (xs.drop i)<nv d:=by
  have h1:=Nat.div_add_mod (nv (u.drop i)) (nv d)
  have h2:=Nat.mod_lt (nv (u.drop i)) hdp
  rw[Nat.mul_comm]at h1
  omega
 refine⟨xs,nv (u.drop i) / nv d,?_,hdq,JY,hxn,hxt,z6J,by rw[Ed,hwd]⟩
 have hx1:∀ c:Bool,c=decide (nv (u.drop i)<x*nv d)->(if c=true then zO ((x:Int)-1)else(x:Int))=((nv (u.drop i) / nv d:Nat):Int):=by
  intro c hc
  rw[<- z7v]
  by_cases cc:nv (u.drop i)<x*nv d
  ·have Ve:x≠0:=by intro h; subst h; omega
   rw[hc,decide_eq_true cc,if_pos rfl,if_pos cc,qm (by omega) (by omega)]; omega
  ·rw[hc,decide_eq_false cc,if_neg (by simp),if_neg cc]
 generalize nv (u.drop i) / nv d=z at *
 clear g1 g2 Ed z7v hW hWp qu z6J hwd
 have ei:zF ((i:Int)-1)=(i:Int)-1:=zA (by omega) (by omega)
 have a0:zF ((i:Int)+((n+2:Nat):Int))=((i+(n+1+1):Nat):Int):=by rw[zA (by omega) (by omega)]; omega
 have a1:zF (((i+(n+1+1):Nat):Int)-1)=((i+(n+1):Nat):Int):=by rw[zA (by omega) (by omega)]; omega
 have a2:zF (((i+(n+1+1):Nat):Int)-2)=((i+n:Nat):Int):=by rw[zA (by omega) (by omega)]; omega
 have a3:zF (((n+2:Nat):Int)-1)=((n+1:Nat):Int):=by rw[zA (by omega) (by omega)]; omega
 have a4:zF (((n+2:Nat):Int)-2)=((n:Nat):Int):=by rw[zA (by omega) (by omega)]; omega
 have a5:zF (((i+(n+1+1):Nat):Int)+1)=((i+(n+1+1)+1:Nat):Int):=i1 _ (by omega)
 have zge:i+(n+1+1)+1-i=d.length+1:=by omega
 unfold c9
 simp only[ei,a0,a1,a2,a3,a4,a5]
 rw[za (by simp)]
 rw[qp _ (by omega) (by omega),jG _ rfl (by omega),qp _ (by omega) (by omega),jG _ rfl (by omega),qp _ (by omega) (by omega),jG _ rfl (by omega),qp _ (by omega) (by omega),qp _ (by omega) (by omega)]
 simp only[Int.toNat_natCast,Nat.zero_add,xn,jr hl,wR hd,zge]
 rw[z6 hg]
 have hc:=hx1 _ rfl
 rw[z6 (a:=((z:Int),xs,q)) ?_]
 ·simp only[sV hdq]
  rw[qp _ (by omega) (by omega),jG _ rfl (by omega),zJ _ (by simp) rfl (by simp),zJ _ rfl rfl rfl,zb rfl,vk _ (by simp),z7]
 ·rw[fh _ (by omega) (by omega) (by omega),zb rfl,zb rfl,z6 hr]
  simp only[y5]
  by_cases cc:nv (u.drop i)<x*nv d
  ·rw[if_pos (decide_eq_true cc)]at hc ⊢
   rw[zJ _ rfl rfl rfl,zJ _ (by omega) rfl (by omega),zb rfl,zb rfl,z7,hc]
  ·rw[if_neg (by simpa using cc)]at hc ⊢
   rw[zJ _ rfl rfl rfl,zJ _ (by omega) rfl (by omega),zb rfl,zb rfl,z7,hc]
theorem OO(d:List Int)(hd:zm d)(m n:Nat)(hn:d.length=n+2)(hm:n+2<=m)(lm':m<=999999990)(BZ:2147483648<=lm d (n+1))(u0:List Int)(hu0:zm u0)(hlu:u0.length=m+1)
  (xK:nv (u0.drop (m-(n+2)+1))<nv d) (y:Int) :
  ∃ r:List Int×List Int,(XZ y d ((n+2:Nat):Int) (((m-(n+2):Nat):Int),u0,List.replicate (m-(n+2)+1) 0)).run=some r/\zm r.1/\r.1.length=m+1/\zm r.2/\r.2.length=m-(n+2)+1/\nv r.1<nv d/\nv u0=nv r.2*nv d+nv r.1:=by
 refine T.qI (λs:Int×List Int×List Int=>∃ k:Nat,s.1=(k:Int)-1/\k<=m-(n+2)+1/\zm s.2.1/\s.2.1.length=m+1/\zm s.2.2/\s.2.2.length=m-(n+2)+1/\s.2.1.take k=u0.take k /\
   nv (s.2.1.drop k)<nv d/\nv (u0.drop k)=nv (s.2.2.drop k)*nv d+nv (s.2.1.drop k))
  (λs=>(s.1+1).toNat) _ ?_ ⟨m-(n+2)+1,by simp,Nat.le_refl _,hu0,hlu,xp _,by simp,rfl,xK,by simp⟩
 rintro⟨_,u,q⟩ ⟨k,rfl,hk,hl,hul,hq,hql,htk,qu,hv⟩
 simp only at hl hul hq hql htk qu hv ⊢
 cases k with
 | zero =>
  right
  refine⟨(u,q),?_,hl,hul,hq,hql,by simpa using qu,by simpa using hv⟩
  unfold c9
  simp
 | succ i =>
  left
  obtain⟨xs,z,hr,hz,JY,hxn,hxt,hxm,Ed⟩:=FX d hd n hn (by omega) BZ y i (by omega) u q hl (by omega) (by omega) hq (by omega) qu
  have e1:((i+1:Nat):Int)-1=(i:Int):=by omega
  refine⟨((i:Int)-1,xs,q.set i (z:Int)),by rw[e1]; exact hr,⟨i,rfl,by omega,JY,hxn.trans hul,xL hq _ hz,by simpa using hql,?_,hxm,?_⟩,by simp⟩
  ·simp only
   rw[hxt]
   have:=congrArg (List.take i) htk
   rwa [List.take_take,List.take_take,show min i (i+1)=i by omega]at this
  ·simp only
   rw[set_drop _ (by omega),Int.toNat_natCast,sj (a:=u0) (by omega),<- Ey htk (show i<i+1 by omega)]
   exact OE Ed hv
theorem PZ{A B S Q R:Nat}(hS:0<S)(h:A*S=Q*(B*S)+R)(hR:R<B*S):Q=A / B/\R / S=A % B:=by
 have hB:0<B:=Nat.pos_of_ne_zero λz=>by subst z; simp at hR
 have h1:=Nat.div_add_mod R S
 have h2:=Nat.mod_lt R hS
 -- R is a multiple of S
 have h3:A*S=S*(Q*B+R / S)+R % S:=by
  have e:Q*(B*S)=S*(Q*B):=by grind
  rw[h,e,Nat.mul_add]; omega
 have h4:R % S=0:=by
  have:=congrArg (· % S) h3
  simp only[Nat.mul_mod_left]at this
  rw[Nat.add_comm,Nat.add_mul_mod_self_left,Nat.mod_mod]at this
  exact this.symm
 rw[h4,Nat.add_zero,Nat.mul_comm A]at h3
 have h5:=Nat.eq_of_mul_eq_mul_left hS h3
 have h6:R / S<B:=(Nat.div_lt_iff_lt_mul hS).2 hR
 constructor
 ·rw[h5,Nat.mul_comm,Nat.mul_add_div hB,Nat.div_eq_of_lt h6,Nat.add_zero]
 ·rw[h5,Nat.mul_comm,Nat.mul_add_mod,Nat.mod_eq_of_lt h6]
theorem SY{A S P D V X:Nat}(hA:A<D*P)(hS:S<=2147483648)(hV:2147483648*P<=V)(hX:X*D<=A*S)(hD:0<D)(hS0:0<S):X<V:=by
 have h1:A*S<D*V:=by
  have a1:A*S<D*P*S:=Nat.mul_lt_mul_of_pos_right hA hS0
  have a2:D*P*S<=D*V:=by
   have:P*S<=V:=by
    have:=Nat.mul_le_mul_left P hS
    rw[Nat.mul_comm P 2147483648]at this
    exact Nat.le_trans this hV
   rw[Nat.mul_assoc]
   exact Nat.mul_le_mul_left D this
  omega
 have h2:X*D<V*D:=by rw[Nat.mul_comm V]; exact Nat.lt_of_le_of_lt hX h1
 exact Nat.lt_of_mul_lt_mul_right h2
theorem Hf(a b:List Int)(ha:zm a)(hb:zm b)(la:a.length<=100000000)(n:Nat)(hbn:b.length=n+2)(hba:b.length<=a.length)(BZ:lm b (n+1)≠0) :
  (Qb a b).run=some (zu (nv a / nv b),zu (nv a % nv b)):=by
 have ht:=wk hb (n+1)
 obtain⟨s,hs,hs1,hs2,hs3⟩:=Tk (x:=lm b (n+1)) (by omega) ht
 have za3:2 ^ s<=2147483648:=by
  have:2 ^ s<=2 ^ 31:=Nat.pow_le_pow_right (by omega) (by omega)
  exact this
 have pR:0<2 ^ s:=Nat.pow_pos (by omega)
 have hBt:=zbm b n hbn
 -- the divisor
 have z4U:nv b*2 ^ s<4294967296 ^ b.length:=by
  have h1:=zY b (n+1)
  rw[qC (by omega)]at h1
  have h2:=uu hb (n+1)
  have h3:nv b<4294967296 ^ (n+1)*(lm b (n+1)+1):=by rw[h1,Nat.mul_add]; omega
  rw[hbn]
  have h4:(lm b (n+1)+1)*2 ^ s<=4294967296:=by
   have hm:4294967296=2 ^ (32-s)*2 ^ s:=ko s (by omega)
   have h5:lm b (n+1)<2 ^ (32-s):=by
    rw[hm]at hs3
    exact Nat.lt_of_mul_lt_mul_right hs3
   have:=Nat.mul_le_mul_right (2 ^ s) (show lm b (n+1)+1<=2 ^ (32-s)from h5)
   rw[<- hm]at this; exact this
  have h5:nv b*2 ^ s<4294967296 ^ (n+1)*(lm b (n+1)+1)*2 ^ s:=Nat.mul_lt_mul_of_pos_right h3 pR
  have h6:4294967296 ^ (n+1)*(lm b (n+1)+1)*2 ^ s<=4294967296 ^ (n+2):=by
   rw[Nat.mul_assoc,Nat.pow_succ 4294967296 (n+1)]
   exact Nat.mul_le_mul_left _ h4
  exact Nat.lt_of_lt_of_le h5 h6
 obtain⟨d,hd,OW,hdn,hdv⟩:=pY b hb (by omega) s b.length hs1 (Nat.le_refl _) (by omega) z4U
 have zcQ:nv a*2 ^ s<4294967296 ^ (a.length+1):=by
  have h1:=yN ha
  rw[Nat.pow_succ]
  exact Nat.mul_lt_mul_of_lt_of_le h1 (Nat.le_trans za3 (by omega)) (by omega)
 obtain⟨u,hu,hul,hun,huv⟩:=pY a ha (by omega) s (a.length+1) hs1 (by omega) (by omega) zcQ
 -- ob highest limb
 have z5V:2147483648<=lm d (n+1):=by
  have h1:=zY d (n+1)
  rw[qC (by omega),hdv]at h1
  have h2:=uu OW (n+1)
  have h3:=zY b (n+1)
  rw[qC (by omega)]at h3
  have h4:4294967296 ^ (n+1)*(lm b (n+1)*2 ^ s)<=nv b*2 ^ s:=by
   rw[<- Nat.mul_assoc]
   exact Nat.mul_le_mul_right _ (by omega)
  have h5:4294967296 ^ (n+1)*2147483648<=nv b*2 ^ s:=Nat.le_trans (Nat.mul_le_mul_left _ hs2) h4
  have h6:4294967296 ^ (n+1)*2147483648<4294967296 ^ (n+1)*(lm d (n+1)+1):=by
   rw[Nat.mul_add]; omega
  have:=Nat.lt_of_mul_lt_mul_left h6
  omega
 have xK:nv (u.drop (a.length-(n+2)+1))<nv d:=by
  have h1:=kS u (a.length-(n+2)+1) (by omega)
  have h2:nv (u.drop (a.length-(n+2)+1))*4294967296 ^ (a.length-(n+2)+1)<=nv a*2 ^ s:=by
   rw[<- huv,h1,Nat.mul_comm]; omega
  have h3:2147483648*4294967296 ^ (n+1)<=nv d:=by
   have h4:=zY d (n+1)
   rw[qC (by omega)]at h4
   have h5:=Nat.mul_le_mul_left (4294967296 ^ (n+1)) z5V
   rw[Nat.mul_comm 2147483648]; omega
  have h4:nv a<4294967296 ^ (a.length-(n+2)+1)*4294967296 ^ (n+1):=by
   rw[<- Nat.pow_add,show a.length-(n+2)+1+(n+1)=a.length by omega]
   exact yN ha
  exact SY h4 za3 h3 h2 (ZM _) pR
 obtain⟨⟨xu,xq⟩,hr,hxu,hxun,hxq,hxqn,hxlt,Ed⟩:=OO d OW a.length n (by omega) (by omega) (by omega) z5V u hul (by omega) xK (s:Int)
 simp only at hxu hxun hxq hxqn hxlt Ed
 rw[huv,hdv]at Ed
 rw[hdv]at hxlt
 obtain⟨f1,f2⟩:=PZ pR Ed hxlt
 -- the text
 have e1:zF ((b.length:Int)-1)=((n+1:Nat):Int):=by rw[zA (by omega) (by omega)]; omega
 have es:zO (s:Int)=s:=yM (by omega)
 have e2:zF ((a.length:Int)+1)=((a.length+1:Nat):Int):=i1 _ (by omega)
 have e3:zF (zF ((a.length:Int)-((n+2:Nat):Int))+1)=((a.length-(n+2)+1:Nat):Int):=by rw[zA (x:=(a.length:Int)-((n+2:Nat):Int)) (by omega) (by omega),zA (by omega) (by omega)]; omega
 have e4:zF (((a.length-(n+2)+1:Nat):Int)-1)=((a.length-(n+2):Nat):Int):=im1 _ (by omega)
 have e5:zF (s:Int)=s:=zA (by omega) (by omega)
 have e6:zF (0-(s:Int)) = -(s:Int):=by rw[zA (by omega) (by omega)]; omega
 unfold Qb
 simp only[e1,e2,xn,wR hb]
 rw[qp _ (by omega) (by omega),z6 hs]
 simp only[es]
 rw[z6 hu,z6 hd]
 simp only[e3,e4,e5,e6,Int.toNat_natCast,List.length_replicate,Nat.zero_add,List.drop_zero,List.take_length,hdn,hbn]
 rw[T.run_mk _ (by omega) (by omega) (by omega) (by omega),zb rfl,zJ _ rfl rfl rfl,zJ _ rfl rfl rfl,zb rfl,zo]
 have zgK:d.take (n+2)=d:=List.take_of_length_le (by omega)
 simp only[zgK]
 rw[z6 hr]
 simp only[List.take_length]
 rw[zb rfl,zb rfl,z6 (wi xq hxq (by omega)),fh _ (by omega) (by omega) (by omega)]
 have ec:va (e:=.int .u32) 0 ((n+2:Nat):Int) xu=xu.take (n+2):=by unfold va; simp only[Int.toNat_natCast,Int.toNat_zero,List.drop_zero]
 have hxt:nv (xu.take (n+2))=nv xu:=by
  have h1:=kS xu (n+2) (by omega)
  have h2:=oh hxu (n+2) (by omega) (Nat.lt_trans hxlt (by rw[<- hbn]; exact z4U))
  rw[h2]at h1; omega
 rw[ec]
 have hsh:(br (xu.take (n+2)) (-(s:Int))).run=some (zu (nv xu / 2 ^ s)):=by
  rcases Nat.eq_zero_or_pos s with z | z
  ·subst z
   have:=Kh (xu.take (n+2)) (mv hxu _) (by simp; omega) 0 (by omega)
   rw[hxt]at this
   simpa using this
  ·have:=Kg (xu.take (n+2)) (mv hxu _) (by simp; omega) s (by omega) z
   rw[hxt]at this
   exact this
 rw[z6 hsh,z7,f2,f1]
theorem z1x{A:Nat}(k:Nat)(h:(zu A).length=k+1):lm (zu A) k≠0:=by
 intro hz
 have h1:=zY (zu A) k
 rw[qC (by omega),hz,Nat.mul_zero,Nat.add_zero,zW]at h1
 have h2:=uu (zn A) k
 have:=zR.2 (show A<4294967296 ^ k by omega)
 omega
theorem yZ(a b:List Int)(ha:zm a)(hb:zm b)(la:a.length<=100000000)(lb:b.length<=100000000) :
  (yw a b).run=some (if nv b=0 then([],[],false)else(zu (nv a / nv b),zu (nv a % nv b),true)):=by
 have qa:=zw ha
 have qb:=zw hb
 unfold yw
 rw[z6 (wi a ha (by omega)),z6 (wi b hb (by omega))]
 generalize nv a=A at *
 generalize nv b=B at *
 by_cases hB:B=0
 ·subst hB
  rw[ql]; simp
 ·have vM:(zu B).length≠0:=by
   intro h
   exact hB (qZ.1 (List.eq_nil_of_length_eq_zero h))
  rw[if_neg hB,z8 (by simpa using vM),z6 (pz _ _ (zn A) (zn B) (by omega) (by omega)),zW,zW]
  by_cases qu:A<B
  ·rw[za (by unfold so; rw[if_pos qu]; rfl),z6 (lz _ (zn A) (by omega)),z7,zW,Nat.div_eq_of_lt qu,Nat.mod_eq_of_lt qu,ql]
  ·rw[z8 (by unfold so; rw[if_neg qu]; split<;>simp)]
   by_cases h1:(zu B).length=1
   ·-- by one limb
    have Il:zu B=[(B:Int)]:=by
     rw[kt hB]at h1 ⊢
     have:B / 4294967296=0:=by
      have:(zu (B / 4294967296)).length=0:=by simpa using h1
      exact qZ.1 (List.eq_nil_of_length_eq_zero this)
     rw[this,ql]
     congr 1; omega
    have hBl:B<4294967296:=by
     have:=zR.1 (Nat.le_of_eq h1)
     simpa using this
    have e0:nth (zu B) 0 0=(B:Int):=by rw[Il]; rfl
    have hm:=Nat.mod_lt A (Nat.pos_of_ne_zero hB)
    have hs:=sD (zu A) (zn A) (by omega) B (by omega) hBl
    rw[zW]at hs
    rw[za (by rw[h1]; rfl),qp _ (by omega) (by omega)]
    simp only[xn,e0]
    rw[z6 hs]
    simp only[yM (show A % B<18446744073709551616 by omega)]
    rw[z6 (yz _ (by omega)),z7]
   ·obtain⟨n,hn⟩:∃ n,(zu B).length=n+2:=⟨(zu B).length-2,by omega⟩
    have hle:(zu B).length<=(zu A).length:=by
     rcases Nat.lt_or_ge (zu A).length (zu B).length with h | h
     ·exact absurd (lg h) qu
     ·exact h
    have hl:=Hf (zu A) (zu B) (zn A) (zn B) (by omega) n hn hle (z1x (n+1) (by omega))
    rw[zW,zW]at hl
    rw[z8 (by simp; omega),z6 hl,z7]
theorem XD(a b:List Int)(ha:zm a)(hb:zm b)(la:a.length<=100000000)(lb:b.length<=100000000):(Zu a b).run=some (zu (Nat.gcd (nv a) (nv b))):=by
 have qa:=zw ha
 have qb:=zw hb
 unfold Zu
 rw[z6 (lz a ha (by omega)),z6 (lz b hb (by omega))]
 generalize nv a=A at *
 generalize nv b=B at *
 have key:(Ud (zu A,zu B)).run=some (zu (Nat.gcd A B)):=by
  have:=vI (r:=fk) (λs:List Int×List Int=>∃ A B:Nat,s=(zu A,zu B)/\(zu A).length<=100000000/\(zu B).length<=100000000)
   (λs=>nv s.2) (λs=>zu (Nat.gcd (nv s.1) (nv s.2))) ?_ (s:=(zu A,zu B)) ⟨A,B,rfl,by omega,by omega⟩
  ·rw[zW,zW]at this; exact this
  ·rintro _ ⟨A,B,rfl,hA,hB'⟩
   simp only[zW]
   by_cases hB:B=0
   ·right
    subst hB
    unfold fk
    rw[ql]; simp
   ·left
    have hd:=yZ (zu A) (zu B) (zn A) (zn B) hA hB'
    rw[zW,zW,if_neg hB]at hd
    have hm:=Nat.mod_lt A (Nat.pos_of_ne_zero hB)
    have vM:(zu B).length≠0:=λh=>hB (qZ.1 (List.eq_nil_of_length_eq_zero h))
    refine⟨(zu B,zu (A % B)),?_,⟨B,A % B,rfl,hB',?_⟩,by simpa using hm,?_⟩
    ·unfold fk
     rw[za (by simp; omega),z6 hd,z7]
    ·have:(zu (A % B)).length<=(zu B).length:=zR.2 (Nat.lt_trans hm (zR.1 (Nat.le_refl _)))
     omega
    ·simp only[zW]
     rw[Nat.gcd_comm,<- Nat.gcd_rec,Nat.gcd_comm]
 rw[z6 key,z7]
theorem z5n{a:List Int}(ha:zm a)(j:Nat):lm a j=nv a / 4294967296 ^ j % 4294967296:=by
 by_cases h:j<a.length
 ·have h1:=kS a j (by omega)
  have h2:=uu ha j
  have h3:=sj (a:=a) h
  have h4:=wk ha j
  have h5:nv a / 4294967296 ^ j=nv (a.drop j):=by
   refine(congrArg (· / 4294967296 ^ j) h1).trans ?_
   rw[Nat.add_mul_div_left _ _ (ZM _),Nat.div_eq_of_lt h2,Nat.zero_add]
  rw[h5,h3]; omega
 ·rw[Lw (by omega)]
  have h1:=yN ha
  have h2:4294967296 ^ a.length<=4294967296 ^ j:=Nat.pow_le_pow_right (by omega) (by omega)
  rw[Nat.div_eq_of_lt (by omega)]
theorem z7X{a:List Int}(ha:zm a)(i:Nat):lm a (i / 32) / 2 ^ (i % 32) % 2=nv a / 2 ^ i % 2:=by
 rw[z5n ha,<- Yg i]
 generalize hs:i % 32=s
 have hs2:s<32:=by omega
 rw[<- Nat.div_div_eq_div_mul]
 generalize nv a / 4294967296 ^ (i / 32)=z
 have e:4294967296=2 ^ s*2 ^ (32-s):=by rw[Nat.mul_comm]; exact ko s (by omega)
 rw[e,Nat.mod_mul_right_div_self]
 have e2:2 ∣ 2 ^ (32-s):=⟨2 ^ (31-s),by rw[<- Nat.pow_succ']; congr 1; omega⟩
 exact Nat.mod_mod_of_dvd _ e2
theorem z2g{D B t:Nat}(hB:0<B)(ht:t<=1) :
  (D*2+t) / B=D / B*2+(if B<=D % B*2+t then 1 else 0)/\(D*2+t) % B=(D % B*2+t)-(if B<=D % B*2+t then B else 0):=by
 have h1:=Nat.div_add_mod D B
 have h2:=Nat.mod_lt D hB
 generalize D / B=q at *
 generalize D % B=r at *
 subst h1
 have e:(B*q+r)*2+t=B*(q*2)+(r*2+t):=by grind
 rw[e,Nat.mul_add_div hB,Nat.mul_add_mod]
 split
 ·rename_i c
  have e2:r*2+t=B+(r*2+t-B):=by omega
  rw[e2,Nat.add_div_left _ hB,Nat.add_mod_left,Nat.div_eq_of_lt (by omega),Nat.mod_eq_of_lt (by omega)]
  omega
 ·rename_i c
  rw[Nat.div_eq_of_lt (by omega),Nat.mod_eq_of_lt (by omega)]; omega
theorem NJ(A i:Nat):A / 2 ^ i=A / 2 ^ (i+1)*2+A / 2 ^ i % 2:=by
 rw[Nat.pow_succ,<- Nat.div_div_eq_div_mul]
 have:=Nat.div_add_mod (A / 2 ^ i) 2
 omega
theorem z7H{x s:Nat}(hs:s<32)(hx:x<4294967296)(hd:2 ^ (s+1) ∣ x):Z6 .u32 (x:Int) (yt .u32 1 (s:Int))=((x+2 ^ s:Nat):Int)/\x+2 ^ s<4294967296:=by
 have hp:2 ^ s<4294967296:=Nat.pow_lt_pow_right (by omega) (show s<32 by omega)
 have e1:yt .u32 1 (s:Int)=((2 ^ s:Nat):Int):=by
  have e:min (s:Int).toNat 32=s:=by simp; omega
  show xR ((1:Int)*2 ^ (min (s:Int).toNat 32))=_
  rw[e,Int.one_mul]
  have e2:(2:Int) ^ s=((2 ^ s:Nat):Int):=by simp
  rw[e2,sV hp]
 obtain⟨m,rfl⟩:=hd
 rw[e1,ZX hx hp]
 have e3:2 ^ (s+1)*m ||| 2 ^ s=2 ^ (s+1)*m+2 ^ s:=by
  rw[Nat.mul_comm]
  exact Jp m (2 ^ s) (s+1) (Nat.pow_lt_pow_right (by omega) (by omega))
 rw[e3]
 refine⟨rfl,?_⟩
 have e4:(4294967296:Nat)=2 ^ (s+1)*2 ^ (31-s):=by rw[<- Nat.pow_add,show s+1+(31-s)=32 by omega]
 rw[e4]at hx ⊢
 have h5:m<2 ^ (31-s):=Nat.lt_of_mul_lt_mul_left hx
 have h6:=Nat.mul_le_mul_left (2 ^ (s+1)) (show m+1<=2 ^ (31-s)from h5)
 rw[Nat.mul_add,Nat.mul_one]at h6
 have h7:2 ^ s<2 ^ (s+1):=Nat.pow_lt_pow_right (by omega) (by omega)
 exact Nat.lt_of_lt_of_le (Nat.add_lt_add_left h7 _) h6
theorem z7y{xs:List Int}(h:zm xs)(i M:Nat)(hv:nv xs=M*2 ^ (i+1)):2 ^ (i % 32+1) ∣ lm xs (i / 32):=by
 rw[z5n h,hv]
 have e1:2 ^ (i+1)=4294967296 ^ (i / 32)*2 ^ (i % 32+1):=by
  rw[Nat.pow_succ,<- Yg i,Nat.pow_succ,Nat.mul_assoc]
 rw[e1]
 have e2:M*(4294967296 ^ (i / 32)*2 ^ (i % 32+1)) / 4294967296 ^ (i / 32)=M*2 ^ (i % 32+1):=by
  have:M*(4294967296 ^ (i / 32)*2 ^ (i % 32+1))=4294967296 ^ (i / 32)*(M*2 ^ (i % 32+1)):=by grind
  rw[this,Nat.mul_div_cancel_left _ (ZM _)]
 rw[e2]
 have e3:(4294967296:Nat)=2 ^ (31-i % 32)*2 ^ (i % 32+1):=by rw[<- Nat.pow_add,show 31-i % 32+(i % 32+1)=32 by omega]
 rw[e3,Nat.mul_mod_mul_right]
 exact⟨_,Nat.mul_comm _ _⟩
theorem z2d{X P l t M z:Nat}(h:X+P*l=M*(z*2)+P*(l+t))(h2:P*t=z):X=(M*2+1)*z:=by
 rw[Nat.mul_add,h2]at h
 have e:(M*2+1)*z=M*(z*2)+z:=by grind
 rw[e]; omega
theorem z1H{xs:List Int}(i M:Nat)(hi:i / 32<xs.length)(hv:nv xs=M*2 ^ (i+1)):nv (xs.set (i / 32) ((lm xs (i / 32)+2 ^ (i % 32):Nat):Int))=(M*2+1)*2 ^ i:=by
 have h:=Xu (a:=xs) (i:=i / 32) ((lm xs (i / 32)+2 ^ (i % 32):Nat):Int) hi
 rw[Int.toNat_natCast,hv]at h
 have h2:=Yg i
 rw[Nat.pow_succ]at h
 exact z2d h h2
theorem TG{D B t k:Nat}(hB:0<B)(hk:B<4294967296 ^ k):(zu (D % B)).length<=k/\(zu (D % B*2)).length<=k+1:=by
 have h1:D % B<4294967296 ^ k:=Nat.lt_trans (Nat.mod_lt _ hB) hk
 refine⟨zR.2 h1,zR.2 ?_⟩
 rw[Nat.pow_succ]
 have h2:D % B*2<4294967296 ^ k*2:=Nat.mul_lt_mul_of_pos_right h1 (by omega)
 exact Nat.lt_of_lt_of_le h2 (Nat.mul_le_mul_left _ (by omega))
theorem BS:zm [(1:Int)]:=by
 intro x hx; simp at hx; omega
theorem EM(a b:List Int)(ha:zm a)(hb:zm b)(la:a.length<=100000000)(lb:b.length<=100000000)(hB:0<nv b)(i:Nat)(hi:i<32*a.length)(xs:List Int)(hl:zm xs)(hn:xs.length=a.length)
  (hv:nv xs=nv a / 2 ^ (i+1) / nv b*2 ^ (i+1)) :
  ∃ ys:List Int,(uC a b (zu (nv a / 2 ^ (i+1) % nv b),(i:Int),xs)).run=some (.inl (zu (nv a / 2 ^ i % nv b),(i:Int)-1,ys))/\zm ys/\ys.length=a.length/\nv ys=nv a / 2 ^ i / nv b*2 ^ i:=by
 have zgh:=z7X ha i
 have z5w:=NJ (nv a) i
 have hx:=wk ha (i / 32)
 have JY:=wk hl (i / 32)
 obtain⟨q1,q2⟩:=TG (D:=nv a / 2 ^ (i+1)) (t:=0) hB (yN hb)
 obtain⟨k1,k2⟩:=z2g (D:=nv a / 2 ^ (i+1)) hB (show nv a / 2 ^ i % 2<=1 by omega)
 rw[<- z5w]at k1 k2
 obtain⟨o1,o2⟩:=z7H (s:=i % 32) (by omega) JY (z7y hl i _ hv)
 have hsb:=z1H (xs:=xs) i _ (by omega) hv
 have hsh:=Wy (zu (nv a / 2 ^ (i+1) % nv b)) (zn _) (by omega)
 rw[zW]at hsh
 have hv0:nv a / 2 ^ (i+1) / nv b*2 ^ (i+1)=nv a / 2 ^ (i+1) / nv b*2*2 ^ i:=by rw[Nat.pow_succ,Nat.mul_comm (2 ^ i) 2,Nat.mul_assoc]
 rw[hv0]at hv
 clear z5w hv0
 generalize nv a / 2 ^ (i+1)=D at *
 generalize nv a / 2 ^ i=D0 at *
 have SN:=HO (zu (D % nv b*2)) [1] (zn _) BS (by omega) (by simp)
 rw[zW,show nv [1]=1 from rfl]at SN
 have ht1:D0 % 2<=1:=by omega
 generalize D0 % 2=t at *
 have q3:(zu (D % nv b*2+t)).length<=b.length+1:=by
  refine zR.2 ?_
  rw[Nat.pow_succ]
  have h1:=Nat.mod_lt D hB
  have h2:=yN hb
  have h3:D % nv b*2+t<4294967296 ^ b.length*2:=by omega
  exact Nat.lt_of_lt_of_le h3 (Nat.mul_le_mul_left _ (by omega))
 have z8i:=Zf (zu (D % nv b*2+t)) b (zn _) hb (by omega) (by omega)
 have FN:=H3 (zu (D % nv b*2+t)) b (zn _) hb (by omega) (by omega)
 rw[zW]at z8i FN
 have e1:zF (Int.tdiv (i:Int) 32)=((i / 32:Nat):Int):=by rw[cr (by omega),zA (by omega) (by omega)]; omega
 have e2:zO (Int.tmod (i:Int) 32)=((i % 32:Nat):Int):=by rw[bX (by omega),qm (by omega) (by omega)]; omega
 have e3:zF ((i:Int)-1)=(i:Int)-1:=zA (by omega) (by omega)
 have e4:FC .u32 (wH .u32 (lm a (i / 32):Int) ((i % 32:Nat):Int)) 1=(t:Int):=by
  rw[HL (by omega)]
  have:=Jr (x:=lm a (i / 32) / 2 ^ (i % 32)) (y:=1) (Nat.lt_of_le_of_lt (Nat.div_le_self _ _) hx) (by omega)
  rw[Nat.and_one_is_mod,zgh]at this
  exact this
 have hbl:=xL (a:=xs) hl (i / 32) o2
 by_cases c:nv b<=D % nv b*2+t
 ·rw[if_pos c]at k1 k2
  rw[if_neg (by omega)]at FN
  refine⟨xs.set (i / 32) ((lm xs (i / 32)+2 ^ (i % 32):Nat):Int),?_,hbl,by simpa using hn,?_⟩
  ·unfold uC
   simp only[e1,e2,e3,xn,wR ha,e4,Int.toNat_natCast,Nat.zero_add,jr hl,o1]
   rw[za (by simp),z6 hsh]
   rw[z6 (a:=(zu (D % nv b*2+t),xs)) ?_]
   rotate_left
   ·rw[vj _ (by omega),qp _ (by omega) (by omega),vj _ (by omega),uQ _ (by omega)]
    have:t=0\/t=1:=by omega
    rcases this with rfl | rfl
    ·rw[z8 (by decide),zJ _ rfl rfl rfl,zb rfl,z7]; rfl
    ·rw[za (by decide),z6 SN,zJ _ rfl rfl rfl,zb rfl,z7]
   simp only
   rw[z6 z8i,za (by unfold so; rw[if_neg (by omega)]; split<;>simp),z6 FN]
   simp only
   rw[vj _ (by omega),vj _ (by omega),qp _ (by omega) (by omega),jG _ rfl (by omega),vj _ (by omega),uQ _ (by omega),qp _ (by omega) (by omega),jG _ rfl (by omega),
    zJ _ (by simp) rfl (by simp),vk _ (by simp),z7,k2,jr hl,o1]
  ·rw[hsb,k1]
 ·rw[if_neg c]at k1 k2
  refine⟨xs,?_,hl,hn,?_⟩
  ·unfold uC
   simp only[e1,e2,e3,xn,wR ha,e4,Int.toNat_natCast,Nat.zero_add,jr hl,o1]
   rw[za (by simp),z6 hsh]
   rw[z6 (a:=(zu (D % nv b*2+t),xs)) ?_]
   rotate_left
   ·rw[vj _ (by omega),qp _ (by omega) (by omega),vj _ (by omega),uQ _ (by omega)]
    have:t=0\/t=1:=by omega
    rcases this with rfl | rfl
    ·rw[z8 (by decide),zJ _ rfl rfl rfl,zb rfl,z7]; rfl
    ·rw[za (by decide),z6 SN,zJ _ rfl rfl rfl,zb rfl,z7]
   simp only
   rw[z6 z8i,z8 (by unfold so; rw[if_pos (by omega)]; rfl),zJ _ rfl rfl rfl,zb rfl,z7,k2,Nat.sub_zero]
  ·rw[hv,k1,Nat.add_zero]
theorem NY(a b:List Int)(ha:zm a)(hb:zm b)(la:a.length<=100000000)(lb:b.length<=100000000)(hB:0<nv b) :
  ∃ xs:List Int,(eO a b ([],((32*a.length:Nat):Int)-1,List.replicate a.length 0)).run=some (zu (nv a % nv b),xs)/\zm xs/\xs.length=a.length/\nv xs=nv a / nv b:=by
 have h0:nv a / 2 ^ (32*a.length)=0:=by
  refine Nat.div_eq_of_lt ?_
  have h1:=yN ha
  have e:(4294967296:Nat)=2 ^ 32:=by decide
  rw[e,<- Nat.pow_mul]at h1; exact h1
 obtain⟨⟨r,xs⟩,g1,g2,g3,g4,g5⟩:∃ r:List Int×List Int,(eO a b ([],((32*a.length:Nat):Int)-1,List.replicate a.length 0)).run=some r/\r.1=zu (nv a % nv b)/\zm r.2/\r.2.length=a.length/\nv r.2=nv a / nv b:=by
  refine T.qI (λs:List Int×Int×List Int=>∃ k:Nat,s.2.1=(k:Int)-1/\k<=32*a.length/\s.1=zu (nv a / 2 ^ k % nv b)/\zm s.2.2/\s.2.2.length=a.length/\nv s.2.2=nv a / 2 ^ k / nv b*2 ^ k)
   (λs=>(s.2.1+1).toNat) _ ?_ ⟨32*a.length,rfl,Nat.le_refl _,by rw[h0,Nat.zero_mod,ql],xp _,by simp,by rw[h0]; simp⟩
  rintro⟨_,_,xs⟩ ⟨k,rfl,hk,rfl,hl,hn,hv⟩
  simp only at hl hn hv ⊢
  cases k with
  | zero =>
   right
   refine⟨(_,xs),?_,rfl,hl,hn,by simpa using hv⟩
   unfold uC
   simp
  | succ i =>
   left
   obtain⟨ys,f1,f2,f3,f4⟩:=EM a b ha hb la lb hB i (by omega) xs hl hn hv
   have e1:((i+1:Nat):Int)-1=(i:Int):=by omega
   exact⟨(zu (nv a / 2 ^ i % nv b),(i:Int)-1,ys),by rw[e1]; exact f1,⟨i,rfl,by omega,rfl,f2,f3,f4⟩,by simp⟩
 simp only at g2 g3 g4 g5
 subst g2
 exact⟨xs,g1,g3,g4,g5⟩
theorem yi(a b:List Int)(ha:zm a)(hb:zm b)(la:a.length<=100000000)(lb:b.length<=100000000) :
  (jU a b).run=some (if nv b=0 then([],[],false)else(zu (nv a / nv b),zu (nv a % nv b),true)):=by
 unfold jU
 rw[z6 (xF b hb (by omega))]
 by_cases hB:nv b=0
 ·rw[if_pos hB,hB,ql]; simp
 ·have hBp:0<nv b:=Nat.pos_of_ne_zero hB
  have vM:(zu (nv b)).length≠0:=λh=>hB (qZ.1 (List.eq_nil_of_length_eq_zero h))
  obtain⟨xs,g1,g2,g3,g4⟩:=NY a b ha hb la lb hBp
  have e5:zF (zF (32*(a.length:Int))-1)=((32*a.length:Nat):Int)-1:=by rw[zA (x:=32*(a.length:Int)) (by omega) (by omega),zA (by omega) (by omega)]; omega
  have D6:(zu (nv a % nv b)).length<=100000000:=Nat.le_trans (zR.2 (Nat.lt_trans (Nat.mod_lt _ hBp) (yN hb))) lb
  have t1:=xF xs g2 (by omega)
  have t2:=xF (zu (nv a % nv b)) (zn _) (by omega)
  rw[g4]at t1
  rw[zW]at t2
  rw[if_neg hB,z8 (by simpa using vM),z6 (XY a ha (by omega)),z6 (XY b hb (by omega))]
  by_cases c2:nv b<18446744073709551616
  ·by_cases c1:nv a<18446744073709551616
   ·-- both are words
    have hq:nv a / nv b<18446744073709551616:=Nat.lt_of_le_of_lt (Nat.div_le_self _ _) c1
    have hm:nv a % nv b<18446744073709551616:=Nat.lt_of_le_of_lt (Nat.mod_le _ _) c1
    have e3:Int.tdiv ((nv a:Nat):Int) ((nv b:Nat):Int)=((nv a / nv b:Nat):Int):=by rw[cr (by omega)]; exact(Int.natCast_ediv _ _).symm
    have e4:Int.tmod ((nv a:Nat):Int) ((nv b:Nat):Int)=((nv a % nv b:Nat):Int):=by rw[bX (by omega)]; exact(Int.natCast_emod _ _).symm
    simp only[if_pos c1,if_pos c2,Bool.and_self,zj,e3,e4]
    rw[vj _ (by omega),yM hq,z6 (ow _ hq),vj _ (by omega),z6 (ow _ hm),z7]
   ·rw[if_neg c1,if_pos c2]
    rw[z8 (by rfl)]
    by_cases c3:nv b<4294967296
    ·have hm:=Nat.mod_lt (nv a) hBp
     rw[za (show(true&&decide ((nv b:Int)<4294967296))=true by rw[Bool.true_and]; exact decide_eq_true (by omega)),z6 (oX a ha (by omega) (nv b) hBp c3)]
     simp only
     have hm3:nv a % nv b<18446744073709551616:=Nat.lt_trans hm c2
     rw[z6 (ow _ hm3),z7]
    ·rw[z8 (show(true&&decide ((nv b:Int)<4294967296))=false by rw[Bool.true_and]; exact decide_eq_false (by omega)),e5]
     simp only[Int.toNat_natCast,List.length_replicate]
     rw[T.run_mk _ (by omega) (by omega) (by omega) (by omega),zJ _ rfl rfl rfl,zb rfl,z6 g1]
     simp only[Nat.zero_add,List.drop_zero,List.take_length]
     rw[zb rfl,z6 t1,z6 t2,z7]
  ·rw[if_neg c2]
   simp only[Bool.and_false,Bool.false_and,zg]
   rw[e5]
   simp only[Int.toNat_natCast,List.length_replicate]
   rw[T.run_mk _ (by omega) (by omega) (by omega) (by omega),zJ _ rfl rfl rfl,zb rfl,z6 g1]
   simp only[Nat.zero_add,List.drop_zero,List.take_length]
   rw[zb rfl,z6 t1,z6 t2,z7]
end Go.AM.Lf
namespace Go.AM.PL
def NS(n:Nat):UInt8:=UInt8.ofNat (48+n % 10)
def DK(n:Nat):ze:=if h:n=0 then[]else DK (n / 10)++[NS n]
termination_by n
decreasing_by omega
def pr(n:Nat):ze:=if n=0 then[48]else DK n
theorem cf:DK 0=[]:=by rw[DK]; rfl
theorem cX{n:Nat}(h:n≠0):DK n=DK (n / 10)++[NS n]:=by rw[DK,dif_neg h]
def rd(n:Nat):List Int:=if h:n=0 then[]else((48+n % 10:Nat):Int)::rd (n / 10)
termination_by n
decreasing_by omega
theorem rV:rd 0=[]:=by rw[rd]; rfl
theorem Uk{n:Nat}(h:n≠0):rd n=((48+n % 10:Nat):Int)::rd (n / 10):=by rw[rd,dif_neg h]
def mN:Nat->Nat->List Int
 | 0,_=>[]
 | k+1,n=>((48+n % 10:Nat):Int)::mN k (n / 10)
theorem Zx(k n:Nat):(mN k n).length=k:=by
 induction k generalizing n with
 | zero=>rfl
 | succ k ih=>simp[mN,ih]
theorem Sp(k n:Nat):mN k (n % 10 ^ k)=mN k n:=by
 induction k generalizing n with
 | zero=>rfl
 | succ k ih =>
  simp only[mN]
  have e1:n % 10 ^ (k+1) % 10=n % 10:=Nat.mod_mod_of_dvd _ ⟨10 ^ k,by rw[Nat.pow_succ,Nat.mul_comm]⟩
  have e2:n % 10 ^ (k+1) / 10=n / 10 % 10 ^ k:=by rw[Nat.pow_succ,Nat.mul_comm,Nat.mod_mul_right_div_self]
  rw[e1,e2,ih]
theorem Tw(k n:Nat)(h:n / 10 ^ k≠0):rd n=mN k n++rd (n / 10 ^ k):=by
 induction k generalizing n with
 | zero=>simp[mN]
 | succ k ih =>
  have hn:n≠0:=by intro z; subst z; simp at h
  have e:n / 10 ^ (k+1)=n / 10 / 10 ^ k:=by rw[Nat.pow_succ,Nat.mul_comm,Nat.div_div_eq_div_mul]
  rw[e]at h ⊢
  rw[Uk hn,ih _ h]; rfl
theorem I7(k n:Nat)(h:n / 10 ^ k=0):∃ z,mN k n=rd n++List.replicate z 48:=by
 induction k generalizing n with
 | zero=>simp at h; subst h; exact⟨0,by rw[rV]; rfl⟩
 | succ k ih =>
  have e:n / 10 ^ (k+1)=n / 10 / 10 ^ k:=by rw[Nat.pow_succ,Nat.mul_comm,Nat.div_div_eq_div_mul]
  rw[e]at h
  obtain⟨z,hz⟩:=ih _ h
  simp only[mN]
  by_cases hn:n=0
  ·subst hn
   refine⟨z+1,?_⟩
   rw[hz]
   simp[rV,List.replicate_succ]
  ·exact⟨z,by rw[hz,Uk hn]; rfl⟩
def blk(n:Nat):List Int:=if h:n=0 then[]else mN 9 (n % 1000000000)++blk (n / 1000000000)
termination_by n
decreasing_by omega
theorem lL:blk 0=[]:=by rw[blk]; rfl
theorem Vb{n:Nat}(h:n≠0):blk n=mN 9 (n % 1000000000)++blk (n / 1000000000):=by rw[blk,dif_neg h]
theorem I0(n:Nat):∃ z,blk n=rd n++List.replicate z 48:=by
 induction n using Nat.strongRecOn with
 | _ n ih =>
  by_cases hn:n=0
  ·subst hn; exact⟨0,by rw[lL,rV]; rfl⟩
  ·rw[Vb hn]
   have e:mN 9 (n % 1000000000)=mN 9 n:=Sp 9 n
   rw[e]
   by_cases h:n / 1000000000=0
   ·rw[h,lL,List.append_nil]
    exact I7 9 n h
   ·obtain⟨z,hz⟩:=ih (n / 1000000000) (by omega)
    refine⟨z,?_⟩
    rw[hz,<- List.append_assoc]
    congr 1
    exact(Tw 9 n h).symm
theorem Ih(n:Nat):DK n=qG (rd n).reverse:=by
 induction n using Nat.strongRecOn with
 | _ n ih =>
  by_cases hn:n=0
  ·subst hn; rw[cf,rV]; rfl
  ·rw[cX hn,Uk hn,ih _ (by omega)]
   simp only[List.reverse_cons,qG,List.map_append,List.map_cons,List.map_nil]
   congr 1
theorem z4Q{n:Nat}(h:n≠0):rd n≠[]:=by rw[Uk h]; simp
theorem z1S(n:Nat):∀ x,(rd n).getLast? = some x->x≠48:=by
 induction n using Nat.strongRecOn with
 | _ n ih =>
  intro x hx
  by_cases hn:n=0
  ·subst hn; rw[rV]at hx; cases hx
  ·rw[Uk hn]at hx
   by_cases h2:n / 10=0
   ·rw[h2,rV]at hx
    simp at hx; omega
   ·refine ih (n / 10) (by omega) x ?_
    rw[<- hx]
    cases hc:rd (n / 10)with
    | nil=>exact absurd hc (z4Q h2)
    | cons y l=>rw[List.getLast?_cons_cons]
theorem z4I(n k:Nat)(h:n<10 ^ k):(DK n).length<=k:=by
 induction k generalizing n with
 | zero =>
  have:n=0:=by simpa using h
  subst this; rw[cf]; simp
 | succ k ih =>
  by_cases hn:n=0
  ·subst hn; rw[cf]; simp
  ·rw[cX hn]
   have:n / 10<10 ^ k:=by rw[Nat.div_lt_iff_lt_mul (by omega),<- Nat.pow_succ]; exact h
   have:=ih _ this
   simp; omega
end Go.AM.PL
namespace Go.AM.Lf
open PL
@[simp] theorem HF:zk (.int .u8)=(0:Int):=rfl
theorem Nt:([48,49,50,51,52,53,54,55,56,57]:ze).length=10:=rfl
theorem z2S(r:Nat):qo ([48,49,50,51,52,53,54,55,56,57]:ze) ((r % 10:Nat):Int)=((48+r % 10:Nat):Int):=by
 have key:∀ d:Fin 10,qo ([48,49,50,51,52,53,54,55,56,57]:ze) ((d.val:Nat):Int)=((48+d.val:Nat):Int):=by decide
 exact key ⟨r % 10,by omega⟩
theorem N6(q:List Int)(rest:Nat)(hr:rest<4294967296)(xs:List Int)(hx:xs.length<=1000000000):(nA q ((rest:Int),0,xs)).run=some (xs++mN 9 rest):=by
 have:=vI (r:=gF q) (λs:Int×Int×List Int=>∃ (r k:Nat),s.1=(r:Int)/\r<4294967296/\s.2.1=(k:Int)/\k<=9/\s.2.2.length<=1000000000+k)
  (λs=>9-s.2.1.toNat) (λs=>s.2.2++mN (9-s.2.1.toNat) s.1.toNat) ?_ (s:=((rest:Int),0,xs)) ⟨rest,0,rfl,hr,rfl,by omega,by omega⟩
 ·unfold nA
  simpa using this
 ·rintro⟨_,_,ys⟩ ⟨r,k,rfl,h1,rfl,h2,h3⟩
  simp only at h3 ⊢
  by_cases hk:k<9
  ·left
   have e1:Int.tmod (r:Int) 10=((r % 10:Nat):Int):=by rw[bX (by omega)]; rfl
   have e2:xR (Int.tdiv (r:Int) 10)=((r / 10:Nat):Int):=by rw[cr (by omega)]; exact sV (n:=r / 10) (by omega)
   refine⟨(((r / 10:Nat):Int),((k+1:Nat):Int),ys++[((48+r % 10:Nat):Int)]),?_,⟨r / 10,k+1,rfl,by omega,rfl,by omega,by simp; omega⟩,by simp; omega,?_⟩
   ·unfold gF
    simp only[e1,e2,z2S,i1 k (by omega),Nt]
    rw[za (by simp; omega)]
    simp(disch:=omega) [oI]
   ·simp only[Int.toNat_natCast]
    rw[show 9-k=(9-(k+1))+1 by omega,mN]
    simp
  ·right
   have:k=9:=by omega
   subst this
   unfold gF
   simp[mN]
theorem V4(n j:Nat)(h:n<4294967296 ^ j):(blk n).length<=18*j:=by
 induction j generalizing n with
 | zero =>
  have:n=0:=by simpa using h
  subst this; rw[lL]; simp
 | succ j ih =>
  by_cases hn:n=0
  ·subst hn; rw[lL]; simp
  ·rw[Vb hn]
   by_cases h2:n / 1000000000=0
   ·rw[h2,lL]; simp[Zx]; omega
   ·rw[Vb h2]
    have h3:n / 1000000000 / 1000000000<4294967296 ^ j:=by
     rw[Nat.div_div_eq_div_mul,Nat.div_lt_iff_lt_mul (by omega)]
     rw[Nat.pow_succ]at h
     exact Nat.lt_of_lt_of_le h (Nat.mul_le_mul_left _ (by omega))
    have:=ih _ h3
    simp[Zx]; omega
theorem I9(n:Nat)(hn:(zu n).length<=1000000):(mc (zu n,[])).run=some (blk n):=by
 have hbl:=V4 n (zu n).length (zR.1 (Nat.le_refl _))
 have:=vI (r:=gZ) (λs:List Int×List Int=>∃ m:Nat,s.1=zu m/\(zu m).length<=1000000/\s.2.length+(blk m).length<=18000000)
  (λs=>nv s.1) (λs=>s.2++blk (nv s.1)) ?_ (s:=(zu n,[])) ⟨n,rfl,hn,by simp; omega⟩
 ·unfold mc
  simpa using this
 ·rintro⟨_,xs⟩ ⟨m,rfl,h1,h2⟩
  simp only[zW]at h2 ⊢
  by_cases hm:m=0
  ·right
   subst hm
   unfold gZ
   rw[ql,lL]; simp
  ·left
   have vM:(zu m).length≠0:=λh=>hm (qZ.1 (List.eq_nil_of_length_eq_zero h))
   have hs:(dD (zu m) 1000000000).run=some (zu (nv (zu m) / 1000000000),((nv (zu m) % 1000000000:Nat):Int)):=sD (zu m) (zn m) (by omega) 1000000000 (by omega) (by omega)
   rw[zW]at hs
   have hbm:=Vb hm
   have hl:=congrArg List.length hbm
   rw[List.length_append,Zx]at hl
   have hg:=N6 (zu (m / 1000000000)) (m % 1000000000) (by omega) xs (by omega)
   have hlen:(zu (m / 1000000000)).length<=(zu m).length:=zR.2 (Nat.lt_of_le_of_lt (Nat.div_le_self _ _) (zR.1 (Nat.le_refl _)))
   refine⟨(zu (m / 1000000000),xs++mN 9 (m % 1000000000)),?_,⟨m / 1000000000,rfl,by omega,?_⟩,?_,?_⟩
   ·unfold gZ
    rw[za (by simp; omega),z6 hs]
    simp only
    rw[zJ _ rfl rfl rfl,zb rfl,z6 hg,zJ _ rfl rfl rfl,zb rfl,z7]
   ·simp only[List.length_append,Zx]; omega
   ·simp only[zW]; omega
   ·simp only[zW]
    rw[hbm,List.append_assoc]
theorem OK(l:List Int)(z:Nat)(hl:l≠[])(zbl:∀ x,l.getLast? = some x->x≠48)(hn:l.length+z<=100000000) :
  (Zz ((0,(l++List.replicate z 48).length),l++List.replicate z 48)).run=some ((0,l.length),l++List.replicate z 48):=by
 generalize hX:l++List.replicate z 48=X
 have hXl:X.length=l.length+z:=by rw[<- hX]; simp
 have ZV:0<l.length:=List.length_pos_iff.2 hl
 have N7:∀ p:Nat,yE X p 0=if p<l.length then yE l p 0 else if p<l.length+z then 48 else 0:=by
  intro p
  unfold yE
  rw[<- hX,List.getD_eq_getElem?_getD,List.getD_eq_getElem?_getD]
  by_cases h:p<l.length
  ·rw[if_pos h,List.getElem?_append_left h]
  ·rw[if_neg h,List.getElem?_append_right (by omega),List.getElem?_replicate]
   by_cases h2:p<l.length+z
   ·rw[if_pos h2,if_pos (by omega)]; rfl
   ·rw[if_neg h2,if_neg (by omega)]; rfl
 have:=vI (r:=gb) (λs:(Nat×Nat)×List Int=>∃ k:Nat,s.1=(0,l.length+k)/\k<=z/\s.2=X) (λs=>s.1.2) (λ_=>((0,l.length),X)) ?_ (s:=((0,X.length),X)) ⟨z,by rw[hXl],Nat.le_refl _,rfl⟩
 ·exact this
 ·rintro⟨w,y⟩ ⟨k,h1,hk,h2⟩
  simp only at h1 h2
  rw[h1,h2]
  have e1:zF (((l.length+k:Nat):Int)-1)=((l.length+k-1:Nat):Int):=by rw[zA (by omega) (by omega)]; omega
  have hg:=N7 (l.length+k-1)
  cases k with
  | zero =>
   right
   have Pm:yE l (l.length-1) 0≠48:=by
    refine zbl _ ?_
    rw[List.getLast?_eq_getElem?]
    unfold yE
    rw[List.getD_eq_getElem?_getD,List.getElem?_eq_getElem (by omega)]; rfl
   rw[Nat.add_zero]at hg
   rw[if_pos (by omega)]at hg
   unfold gb
   simp only[Nat.add_zero]at e1 ⊢
   simp only[e1,Int.toNat_natCast,Nat.zero_add,HF,hg]
   rw[zb (λ_=>⟨⟨by omega,by omega⟩,⟨rfl,by omega⟩⟩),z8 (by simp[Pm]),zb rfl,zb rfl,z7]
  | succ k =>
   left
   rw[show l.length+(k+1)-1=l.length+k by omega]at e1 hg
   rw[if_neg (by omega),if_pos (by omega)]at hg
   refine⟨((0,l.length+k),X),?_,⟨k,rfl,by omega,rfl⟩,by simp,rfl⟩
   unfold gb
   simp only[e1,Int.toNat_natCast,Nat.zero_add,HF,hg]
   rw[zb (λ_=>⟨⟨by omega,by omega⟩,⟨rfl,by omega⟩⟩),za (by simp; omega),fh _ (by omega) (by omega) (by omega),zb rfl,zb rfl,z7]
   simp
theorem Dm(xs:List Int)(n:Nat)(hn:n<=xs.length)(hx:xs.length<=1000000000):∃ ys:List Int,(wJ (0,n) xs).run=some ys/\ys.length=xs.length/\ys.take n=(xs.take n).reverse:=by
 have e0:zF ((n:Int)-1)=(n:Int)-1:=zA (by omega) (by omega)
 have loop:∃ ys:List Int,(jl ((0,n),0,(n:Int)-1,xs)).run=some ys/\ys.length=xs.length/\∀ p,p<n->ys[p]? = xs[n-1-p]? := by
  refine T.qI (λs:(Nat×Nat)×Int×Int×List Int=>s.1=(0,n)/\∃ i:Nat,s.2.1=(i:Int)/\s.2.2.1=(n:Int)-1-(i:Int)/\i<=n/\s.2.2.2.length=xs.length/\2*i<=n+1/\∀ p,p<n->s.2.2.2[p]? = if p<i\/n<p+i+1 then xs[n-1-p]? else xs[p]?)
   (λs=>n-s.2.1.toNat) _ ?_ ⟨rfl,0,rfl,by simp,by omega,rfl,by omega,λp hp=>by rw[if_neg (by omega)]⟩
  rintro⟨_,_,_,zs⟩ ⟨rfl,i,rfl,rfl,hi,hl,h2i,hv⟩
  simp only at hl hv ⊢
  by_cases qu:(i:Int)<(n:Int)-1-(i:Int)
  ·left
   have hj:((n:Int)-1-(i:Int)).toNat=n-1-i:=by omega
   have ej:zF ((n:Int)-1-(i:Int)-1)=(n:Int)-1-((i+1:Nat):Int):=by rw[zA (by omega) (by omega)]; omega
   refine⟨((0,n),((i+1:Nat):Int),(n:Int)-1-((i+1:Nat):Int),(zs.set i (yE zs (n-1-i) 0)).set (n-1-i) (yE zs i 0)),?_,⟨rfl,i+1,rfl,rfl,by omega,by simpa using hl,by omega,?_⟩,by simp; omega⟩
   ·unfold xQ
    simp only[hj,Int.toNat_natCast,Nat.zero_add,HF,i1 i (by omega),ej]
    rw[za (decide_eq_true qu),qp _ (by omega) (by omega),jG _ rfl (by omega),qp _ (by omega) (by omega),jG _ rfl (by omega),qp _ (by omega) (by omega),jG _ rfl (by omega),qp _ (by omega) (by omega),jG _ (by simp) (by simp; omega),zb rfl,vk _ (by simp),z7]
   ·intro p hp
    have g1:=hv i (by omega)
    have g2:=hv (n-1-i) (by omega)
    rw[if_neg (by omega)]at g1 g2
    simp only[List.getElem?_set,List.length_set]
    by_cases c1:n-1-i=p
    ·rw[if_pos c1,if_pos (by omega),if_pos (by omega)]
     unfold yE
     rw[List.getD_eq_getElem?_getD,g1,<- c1,show n-1-(n-1-i)=i by omega,List.getElem?_eq_getElem (by omega)]; rfl
    ·rw[if_neg c1]
     by_cases c2:i=p
     ·rw[if_pos c2,if_pos (by omega),if_pos (by omega)]
      unfold yE
      rw[List.getD_eq_getElem?_getD,g2,<- c2,List.getElem?_eq_getElem (by omega)]; rfl
     ·rw[if_neg c2,hv p hp]
      by_cases c3:p<i\/n<p+i+1
      ·rw[if_pos c3,if_pos (by omega)]
      ·rw[if_neg c3,if_neg (by omega)]
  ·right
   refine⟨zs,?_,hl,λp hp => ?_⟩
   ·unfold xQ
    rw[z8 (decide_eq_false qu),vk _ rfl,z7]
   ·rw[hv p hp]
    split
    ·rfl
    ·rw[show n-1-p=p by omega]
 obtain⟨ys,hr,hl,hv⟩:=loop
 refine⟨ys,?_,hl,?_⟩
 ·unfold wJ
  rw[vk _ rfl,vk _ rfl,e0,z6 hr,vk _ rfl,z7]
 ·apply List.ext_getElem?
  intro p
  by_cases hp:p<n
  ·have fy:(xs.take n).length=n:=by simp; omega
   rw[List.getElem?_take,if_pos hp,hv p hp,List.getElem?_reverse (by omega),fy,List.getElem?_take,if_pos (by omega)]
  ·rw[List.getElem?_eq_none (by simp; omega),List.getElem?_eq_none (by simp; omega)]
theorem iR(a:List Int)(ha:zm a)(la:a.length<=1000000):(dK a).run=some (pr (nv a)):=by
 have qa:=zw ha
 unfold dK
 rw[z6 (lz a ha (by omega))]
 generalize nv a=n at *
 by_cases hn:n=0
 ·subst hn; rw[ql]; simp[pr]
 ·have vM:(zu n).length≠0:=λh=>hn (qZ.1 (List.eq_nil_of_length_eq_zero h))
  rw[z8 (by simpa using vM),zJ _ rfl rfl rfl,vk _ rfl,z6 (I9 n (by omega))]
  have hbl:=V4 n (zu n).length (zR.1 (Nat.le_refl _))
  obtain⟨z,hz⟩:=I0 n
  have hzl:=congrArg List.length hz
  rw[List.length_append,List.length_replicate]at hzl
  have xK:=OK (rd n) z (z4Q hn) (z1S n) (by omega)
  rw[<- hz]at xK
  obtain⟨ys,hr,hl,hv⟩:=Dm (blk n) (rd n).length (by omega) (by omega)
  rw[vk _ rfl,vk _ rfl,z6 xK]
  simp only[zo]
  rw[zb rfl,zb rfl,z6 hr,vk _ hl.symm,z7]
  simp only[Nat.zero_add,List.drop_zero]
  rw[hv,hz,List.take_left,<- Ih]
  unfold pr
  rw[if_neg hn]
theorem z0l(r:Nat)(h:r<10):qG [Bg (zO (48+(r:Int)))]=[NS r]:=by
 have e:zO (48+(r:Int))=((48+r:Nat):Int):=by rw[qm (by omega) (by omega)]; omega
 have e2:Bg ((48+r:Nat):Int)=((48+r:Nat):Int):=Gq (by omega) (by omega)
 rw[e,e2]
 simp only[qG,List.map_cons,List.map_nil,byteOf,NS,Int.toNat_natCast,Nat.mod_eq_of_lt h]
theorem eU(a:List Int)(ha:zm a)(la:a.length<=1000000):(bE a).run=some (pr (nv a)):=by
 have qa:=zw ha
 unfold bE
 rw[z6 (xF a ha (by omega))]
 generalize nv a=n at *
 by_cases hn:n=0
 ·subst hn; rw[ql]; simp[pr]
 ·have vM:(zu n).length≠0:=λh=>hn (qZ.1 (List.eq_nil_of_length_eq_zero h))
  have hd:∀ m:Nat,(zu m).length<=1000000->(DK m).length<=18000000:=by
   intro m hm
   obtain⟨z,hz⟩:=I0 m
   have h1:=V4 m (zu m).length (zR.1 (Nat.le_refl _))
   have h2:=congrArg List.length hz
   rw[List.length_append]at h2
   rw[Ih]
   simp only[qG,List.length_map,List.length_reverse]
   omega
  have loop:(iP (zu n,[])).run=some (DK n):=by
   have:=vI (r:=y4) (λs:List Int×ze=>∃ m:Nat,s.1=zu m/\(zu m).length<=1000000/\s.2.length+(DK m).length<=18000000) (λs=>nv s.1) (λs=>DK (nv s.1)++s.2) ?_ (s:=(zu n,[])) ⟨n,rfl,by omega,by simpa using hd n (by omega)⟩
   ·unfold iP
    simpa using this
   ·rintro⟨_,s⟩ ⟨m,rfl,h1,h2⟩
    simp only[zW]at h2 ⊢
    by_cases hm:m=0
    ·right
     subst hm
     unfold y4
     rw[ql,cf]; simp
    ·left
     have vM:(zu m).length≠0:=λh=>hm (qZ.1 (List.eq_nil_of_length_eq_zero h))
     have hs:(bJ (zu m) 10).run=some (zu (nv (zu m) / 10),((nv (zu m) % 10:Nat):Int)):=oX (zu m) (zn m) (by omega) 10 (by omega) (by omega)
     rw[zW]at hs
     have hdp:=cX hm
     have OW:=congrArg List.length hdp
     simp only[List.length_append,List.length_cons,List.length_nil]at OW
     have hlen:(zu (m / 10)).length<=(zu m).length:=zR.2 (Nat.lt_of_le_of_lt (Nat.div_le_self _ _) (zR.1 (Nat.le_refl _)))
     have eb:=z0l (m % 10) (by omega)
     have ed:NS (m % 10)=NS m:=by unfold NS; rw[Nat.mod_mod]
     rw[ed]at eb
     refine⟨(zu (m / 10),NS m::s),?_,⟨m / 10,rfl,by omega,?_⟩,?_,?_⟩
     ·unfold y4
      rw[za (by simp; omega),z6 hs]
      simp only[eb]
      rw[zp _ (by simp; omega),z7]; rfl
     ·simp only[List.length_cons]; omega
     ·simp only[zW]; omega
     ·simp only[zW]
      rw[hdp]; simp
  rw[z8 (by simpa using vM),z6 loop,z7]
  unfold pr
  rw[if_neg hn]
def wM(neg:Bool)(n d:Nat):Rat:=if n=0\/d=0 then(false,[],[1],())else(neg,zu (n / Nat.gcd n d),zu (d / Nat.gcd n d),())
def wh(k:Nat)(a:Rat):Prop:=zm a.2.1/\zm a.2.2.1/\a.2.1.length<=k/\a.2.2.1.length<=k
theorem fI:zu 1=[1]:=by rw[kt (by omega),show 1 / 4294967296=0 from rfl,ql]; rfl
theorem uS{m n:Nat}(h:m<=n):(zu m).length<=(zu n).length:=zR.2 (Nat.lt_of_le_of_lt h (zR.1 (Nat.le_refl _)))
theorem IT(neg:Bool)(n d k:Nat)(hk:1<=k)(hn:(zu n).length<=k)(hd:(zu d).length<=k):wh k (wM neg n d):=by
 unfold wM
 split
 ·exact⟨bA,BS,by simp,by simpa using hk⟩
 ·exact⟨zn _,zn _,Nat.le_trans (uS (Nat.div_le_self _ _)) hn,Nat.le_trans (uS (Nat.div_le_self _ _)) hd⟩
theorem Z5(neg:Bool)(n d:List Int)(hn:zm n)(hd:zm d)(ln:n.length<=100000000)(ld:d.length<=100000000):(nG neg n d).run=some (wM neg (nv n) (nv d)):=by
 have qn:=zw hn
 have qd:=zw hd
 unfold nG
 rw[z6 (lz n hn (by omega)),z6 (lz d hd (by omega))]
 generalize nv n=N at *
 generalize nv d=D at *
 unfold wM
 by_cases h:N=0\/D=0
 ·rw[if_pos h]
  have e:(((zu N).length:Int)==0||((zu D).length:Int)==0)=true:=by
   rcases h with rfl | rfl<;>simp[ql]
  have h1:(yC 1).run=some (zu 1):=yz 1 (by omega)
  rw[za e,z6 h1,z7,fI]
 ·rw[if_neg h]
  have hN:N≠0:=λz=>h (.inl z)
  have hD:D≠0:=λz=>h (.inr z)
  have n1:(zu N).length≠0:=λh=>hN (qZ.1 (List.eq_nil_of_length_eq_zero h))
  have n2:(zu D).length≠0:=λh=>hD (qZ.1 (List.eq_nil_of_length_eq_zero h))
  have e:(((zu N).length:Int)==0||((zu D).length:Int)==0)=false:=by rw[Bool.or_eq_false_iff]; exact⟨by simpa using n1,by simpa using n2⟩
  have hg:=XD (zu N) (zu D) (zn N) (zn D) (by omega) (by omega)
  rw[zW,zW]at hg
  have hgp:Nat.gcd N D≠0:=λz=>hN (Nat.gcd_eq_zero_iff.1 z).1
  have Pm:(zu (Nat.gcd N D)).length<=100000000:=Nat.le_trans (uS (Nat.gcd_le_left D (Nat.pos_of_ne_zero hN))) (by omega)
  have h1:=yZ (zu N) (zu (Nat.gcd N D)) (zn N) (zn _) (by omega) Pm
  have h2:=yZ (zu D) (zu (Nat.gcd N D)) (zn D) (zn _) (by omega) Pm
  rw[zW,zW,if_neg hgp]at h1 h2
  rw[z8 e,z6 hg,z6 h1]
  simp only
  rw[z6 h2,z7]
theorem GG(a:Rat)(h:wh 100000000 a):(eB a).run=some (wM a.1 (nv a.2.1) (nv a.2.2.1)):=by
 unfold eB
 rw[z6 (Z5 _ _ _ h.1 h.2.1 h.2.2.1 h.2.2.2),z7]
theorem HU(a b:List Int)(ha:zm a)(hb:zm b)(la:a.length<=100000000)(lb:b.length<=100000000):(Q6 a b).run=some (zu (Nat.gcd (nv a) (nv b))):=by
 have qa:=zw ha
 have qb:=zw hb
 unfold Q6
 rw[z6 (xF a ha (by omega)),z6 (xF b hb (by omega))]
 generalize nv a=A at *
 generalize nv b=B at *
 have key:(XC (zu A,zu B)).run=some (zu (Nat.gcd A B)):=by
  have:=vI (r:=bY) (λs:List Int×List Int=>∃ A B:Nat,s=(zu A,zu B)/\(zu A).length<=100000000/\(zu B).length<=100000000)
   (λs=>nv s.2) (λs=>zu (Nat.gcd (nv s.1) (nv s.2))) ?_ (s:=(zu A,zu B)) ⟨A,B,rfl,by omega,by omega⟩
  ·rw[zW,zW]at this; exact this
  ·rintro _ ⟨A,B,rfl,hA,hB'⟩
   simp only[zW]
   by_cases hB:B=0
   ·right
    subst hB
    unfold bY
    rw[ql]; simp
   ·left
    have hd:=yi (zu A) (zu B) (zn A) (zn B) hA hB'
    rw[zW,zW,if_neg hB]at hd
    have hm:=Nat.mod_lt A (Nat.pos_of_ne_zero hB)
    have vM:(zu B).length≠0:=λh=>hB (qZ.1 (List.eq_nil_of_length_eq_zero h))
    refine⟨(zu B,zu (A % B)),?_,⟨B,A % B,rfl,hB',?_⟩,by simpa using hm,?_⟩
    ·unfold bY
     rw[za (by simp; omega),z6 hd,z7]
    ·have:=uS (Nat.le_of_lt hm)
     omega
    ·simp only[zW]
     rw[Nat.gcd_comm,<- Nat.gcd_rec,Nat.gcd_comm]
 rw[z6 key,z7]
theorem K4(a:Rat)(h:wh 100000000 a):(ja a).run=some (wM a.1 (nv a.2.1) (nv a.2.2.1)):=by
 obtain⟨neg,n,d,u⟩:=a
 obtain⟨hn,hd,ln,ld⟩:=h
 simp only at hn hd ln ld
 have qn:=zw hn
 have qd:=zw hd
 unfold ja
 simp only
 rw[z6 (xF n hn (by omega)),z6 (xF d hd (by omega))]
 generalize nv n=N at *
 generalize nv d=D at *
 unfold wM
 by_cases h:N=0\/D=0
 ·rw[if_pos h]
  have e:(((zu D).length:Int)==0||((zu N).length:Int)==0)=true:=by
   rcases h with rfl | rfl<;>simp[ql]
  rw[za e,z7]
 ·rw[if_neg h]
  have hN:N≠0:=λz=>h (.inl z)
  have hD:D≠0:=λz=>h (.inr z)
  have n1:(zu N).length≠0:=λh=>hN (qZ.1 (List.eq_nil_of_length_eq_zero h))
  have n2:(zu D).length≠0:=λh=>hD (qZ.1 (List.eq_nil_of_length_eq_zero h))
  have e:(((zu D).length:Int)==0||((zu N).length:Int)==0)=false:=by rw[Bool.or_eq_false_iff]; exact⟨by simpa using n2,by simpa using n1⟩
  have hg:=HU (zu N) (zu D) (zn N) (zn D) (by omega) (by omega)
  rw[zW,zW]at hg
  have hgp:Nat.gcd N D≠0:=λz=>hN (Nat.gcd_eq_zero_iff.1 z).1
  have Pm:(zu (Nat.gcd N D)).length<=100000000:=Nat.le_trans (uS (Nat.gcd_le_left D (Nat.pos_of_ne_zero hN))) (by omega)
  have h1:=yi (zu N) (zu (Nat.gcd N D)) (zn N) (zn _) (by omega) Pm
  have h2:=yi (zu D) (zu (Nat.gcd N D)) (zn D) (zn _) (by omega) Pm
  rw[zW,zW,if_neg hgp]at h1 h2
  rw[z8 e,z6 hg,z6 h1]
  simp only
  rw[z6 h2,z7]
theorem rC(k:Nat):(zu (10 ^ k)).length<=k+1:=by
 refine zR.2 ?_
 have h1:(10:Nat) ^ k<=4294967296 ^ k:=Nat.pow_le_pow_left (by omega) k
 have h2:(4294967296:Nat) ^ k<4294967296 ^ (k+1):=Nat.pow_lt_pow_right (by omega) (by omega)
 omega
theorem Ll(m n:Nat):(zu (m*n)).length<=(zu m).length+(zu n).length:=by
 refine zR.2 ?_
 rw[Nat.pow_add]
 exact Nat.mul_lt_mul'' (zR.1 (Nat.le_refl _)) (zR.1 (Nat.le_refl _))
theorem oD(k:Nat)(hk:k<=10000):(rA (k:Int)).run=some (zu (10 ^ k)):=by
 have h1:(yC 1).run=some (zu 1):=yz 1 (by omega)
 have h10:(yC 10).run=some (zu 10):=yz 10 (by omega)
 have loop:=vI (r:=eM (k:Int)) (λs:List Int×Int=>∃ i:Nat,s=(zu (10 ^ i),(i:Int))/\i<=k) (λs=>k-s.2.toNat) (λ_=>zu (10 ^ k)) ?_ (s:=(zu 1,0)) ⟨0,rfl,by omega⟩
 ·have Uy:(VM (k:Int) (zu 1,0)).run=some (zu (10 ^ k)):=loop
  unfold rA
  rw[z6 h1,z6 Uy,z7]
 ·rintro _ ⟨i,rfl,hi⟩
  simp only
  by_cases qu:i<k
  ·left
   have hl:=rC i
   have hm:=oP (zu (10 ^ i)) (zu 10) (zn _) (zn _) (by omega) (by have:=rC 1; simp at this; omega)
   rw[zW,zW,<- Nat.pow_succ]at hm
   refine⟨(zu (10 ^ (i+1)),((i+1:Nat):Int)),?_,⟨i+1,rfl,by omega⟩,by simp; omega,trivial⟩
   unfold eM
   rw[za (by simp; omega),z6 h10,z6 hm,z7,i1 i (by omega)]
  ·right
   have:i=k:=by omega
   subst this
   unfold eM
   simp
theorem Sb(n d:Nat)(h:Nat.gcd n d≠0):Nat.gcd (n / Nat.gcd n d) (d / Nat.gcd n d)=1:=by
 have:=Nat.gcd_mul_left (Nat.gcd n d) (n / Nat.gcd n d) (d / Nat.gcd n d)
 rw[Nat.mul_div_cancel' (Nat.gcd_dvd_left n d),Nat.mul_div_cancel' (Nat.gcd_dvd_right n d)]at this
 have h2:Nat.gcd n d*Nat.gcd (n / Nat.gcd n d) (d / Nat.gcd n d)=Nat.gcd n d*1:=by omega
 exact Nat.eq_of_mul_eq_mul_left (Nat.pos_of_ne_zero h) h2
theorem X9(neg:Bool)(n d:Nat):wM (wM neg n d).1 (nv (wM neg n d).2.1) (nv (wM neg n d).2.2.1)=wM neg n d:=by
 by_cases h:n=0\/d=0
 ·have e:wM neg n d=(false,[],[1],()):=by unfold wM; rw[if_pos h]
  rw[e]; rfl
 ·have e:wM neg n d=(neg,zu (n / Nat.gcd n d),zu (d / Nat.gcd n d),()):=by unfold wM; rw[if_neg h]
  rw[e]
  have hn:n≠0:=λz=>h (.inl z)
  have hd:d≠0:=λz=>h (.inr z)
  have hg:Nat.gcd n d≠0:=λz=>hn (Nat.gcd_eq_zero_iff.1 z).1
  have h1:n / Nat.gcd n d≠0:=Nat.div_ne_zero_iff.2 ⟨hg,Nat.gcd_le_left d (Nat.pos_of_ne_zero hn)⟩
  have h2:d / Nat.gcd n d≠0:=Nat.div_ne_zero_iff.2 ⟨hg,Nat.gcd_le_right n (Nat.pos_of_ne_zero hd)⟩
  simp only[zW]
  unfold wM
  rw[if_neg (by intro z; rcases z with z | z<;>contradiction),Sb n d hg,Nat.div_one,Nat.div_one]
theorem eI(neg:Bool)(n d:Nat):nv (wM neg n d).2.2.1≠0:=by
 unfold wM
 split
 ·show nv [1]≠0; decide
 ·rename_i h
  have hn:n≠0:=λz=>h (.inl z)
  have hd:d≠0:=λz=>h (.inr z)
  have hg:Nat.gcd n d≠0:=λz=>hn (Nat.gcd_eq_zero_iff.1 z).1
  simp only[zW]
  exact Nat.div_ne_zero_iff.2 ⟨hg,Nat.gcd_le_right n (Nat.pos_of_ne_zero hd)⟩
theorem z0J(neg:Bool)(n d:Nat)(h:(wM neg n d).1=true):nv (wM neg n d).2.1≠0:=by
 unfold wM at h ⊢
 split at h
 ·cases h
 ·rename_i c
  have hn:n≠0:=λz=>c (.inl z)
  have hg:Nat.gcd n d≠0:=λz=>hn (Nat.gcd_eq_zero_iff.1 z).1
  rw[if_neg c]
  simp only[zW]
  exact Nat.div_ne_zero_iff.2 ⟨hg,Nat.gcd_le_left d (Nat.pos_of_ne_zero hn)⟩
theorem ez{j k:Nat}{a:Rat}(h:wh j a)(hk:j<=k):wh k a:=⟨h.1,h.2.1,Nat.le_trans h.2.2.1 hk,Nat.le_trans h.2.2.2 hk⟩
def norm(a:Rat):Rat:=wM a.1 (nv a.2.1) (nv a.2.2.1)
theorem ki{k:Nat}(hk:1<=k){a:Rat}(h:wh k a):wh k (norm a):=IT _ _ _ k hk (Nat.le_trans (zw h.1) h.2.2.1) (Nat.le_trans (zw h.2.1) h.2.2.2)
theorem NR(a:Rat):norm (norm a)=norm a:=X9 _ _ _
theorem Vz(a:Rat)(h:wh 100000000 a):(eB a).run=some (norm a):=GG a h
theorem dE(a:Rat)(h:wh 100000000 a):(ja a).run=some (norm a):=K4 a h
end Go.AM.Lf
namespace Go.AM.PL
abbrev Q:=_root_.Rat
def qv(neg:Bool)(n d:Nat):Q:=mkRat (if neg=true then -(n:Int)else(n:Int)) d
def toR(q:Q):Bool×List Int×List Int×Unit:=(decide (q.num<0),zu q.num.natAbs,zu q.den,())
theorem Bi:zu 1=[1]:=by rw[kt (by omega),show 1 / 4294967296=0 from rfl,ql]; rfl
theorem DH(b:Bool)(d:Nat):qv b 0 d=0:=by unfold qv; cases b<;>simp
theorem Dv(b:Bool)(n:Nat):qv b n 0=0:=by unfold qv; simp
theorem CO:toR 0=(false,[],[1],()):=by
 unfold toR
 rw[Rat.zero_num,Rat.zero_den,Bi]
 show(decide ((0:Int)<0),zu 0,[1],())=_
 rw[ql]; rfl
theorem tw(b:Bool)(n:Nat):(if b=true then -(n:Int)else(n:Int)).natAbs=n:=by cases b<;>simp
theorem z6I(b:Bool)(n d:Nat)(hd:d≠0):(qv b n d).den=d / Nat.gcd n d:=by
 unfold qv
 rw[Rat.den_mkRat,if_neg hd,tw,Nat.gcd_comm]
theorem z6D(b:Bool)(n d:Nat)(hd:d≠0):(qv b n d).num=if b=true then -((n / Nat.gcd n d:Nat):Int)else((n / Nat.gcd n d:Nat):Int):=by
 unfold qv
 rw[Rat.num_mkRat,if_neg hd,tw,Nat.gcd_comm]
 cases b with
 | false=>simp only[Bool.false_eq_true,if_false]; rw[Int.natCast_ediv]
 | true =>
  simp only[if_true]
  rw[Int.neg_ediv_of_dvd (Int.natCast_dvd_natCast.2 (Nat.gcd_dvd_left n d)),Int.natCast_ediv]
theorem z6f(b:Bool)(n d:Nat)(hn:n≠0)(hd:d≠0):toR (qv b n d)=(b,zu (n / Nat.gcd n d),zu (d / Nat.gcd n d),()):=by
 unfold toR
 rw[z6I b n d hd,z6D b n d hd]
 have hg:0<Nat.gcd n d:=Nat.gcd_pos_of_pos_left d (Nat.pos_of_ne_zero hn)
 have hp:0<n / Nat.gcd n d:=Nat.div_pos (Nat.le_of_dvd (Nat.pos_of_ne_zero hn) (Nat.gcd_dvd_left n d)) hg
 rw[tw]
 cases b with
 | false=>simp only[Bool.false_eq_true,if_false]; congr 1
 | true=>simp only[if_true]; congr 1; simp only[decide_eq_true_eq]; omega
theorem Uv{m n:Nat}(h:m<=n):(zu m).length<=(zu n).length:=zR.2 (Nat.lt_of_le_of_lt h (zR.1 (Nat.le_refl _)))
theorem XA(m n:Nat):(zu (m*n)).length<=(zu m).length+(zu n).length:=by
 rw[zR,Nat.pow_add]
 have h1:=zR.1 (Nat.le_refl (zu m).length)
 have h2:=zR.1 (Nat.le_refl (zu n).length)
 exact Nat.mul_lt_mul'' h1 h2
def sgn(b:Bool)(n:Nat):Int:=if b=true then -(n:Int)else(n:Int)
theorem z0p(b:Bool)(n d:Nat):qv b n d=mkRat (sgn b n) d:=rfl
end Go.AM.PL
namespace Go.AM.Lf
open PL
def val(a:Rat):Q:=qv a.1 (nv a.2.1) (nv a.2.2.1)
theorem D1(b:Bool)(n d:Nat):wM b n d=toR (qv b n d):=by
 unfold wM
 by_cases h:n=0\/d=0
 ·rw[if_pos h]
  rcases h with h | h
  ·subst h; rw[DH,CO]
  ·subst h; rw[Dv,CO]
 ·rw[if_neg h,z6f _ _ _ (λz=>h (.inl z)) (λz=>h (.inr z))]
def QS(b:Bool):ze:=if b=true then[45]else[]
def UB(s:ze)(n:Nat):ze:=if n=0 then s else
 (jS [48] (n+1-s.length)++s).take ((jS [48] (n+1-s.length)++s).length-n)++[46]++(jS [48] (n+1-s.length)++s).drop ((jS [48] (n+1-s.length)++s).length-n)
theorem Zs(k:Nat):(jS [48] k).length=k:=by
 induction k with
 | zero=>rfl
 | succ k ih=>simp[jS,ih]
theorem jH(s:ze)(l h:Nat):vw (l:Int) (h:Int) s=(s.take h).drop l:=by unfold vw; simp
theorem Bu(s:ze)(n:Nat)(hn:n<=1000)(hs:s.length<=1000000000):(iw s (n:Int)).run=some (UB s n):=by
 unfold iw UB
 by_cases h:n=0
 ·subst h; rw[za (by rfl),z7,if_pos rfl]
 ·rw[z8 (by simp; omega),if_neg h]
  have e1:mP 0 (zF (zF ((n:Int)+1)-(s.length:Int)))=((n+1-s.length:Nat):Int):=by
   rw[i1 n (by omega),zA (by omega) (by omega)]; unfold mP; split<;>omega
  have zhE:(strings_Repeat [48] ((n+1-s.length:Nat):Int)).run=some (jS [48] (n+1-s.length)):=by
   unfold strings_Repeat
   rw[zb ⟨by omega,by omega,by simp; omega⟩,z7,Int.toNat_natCast]
  rw[e1,z6 zhE]
  have hl:=Zs (n+1-s.length)
  simp only[cat]
  generalize hR:jS [48] (n+1-s.length)++s=t
  have htl:t.length=(n+1-s.length)+s.length:=by rw[<- hR,List.length_append,hl]
  have e2:zF ((t.length:Int)-(n:Int))=((t.length-n:Nat):Int):=by rw[zA (by omega) (by omega)]; omega
  have c0:vw 0 ((t.length-n:Nat):Int) t=t.take (t.length-n):=by have:=jH t 0 (t.length-n); simpa using this
  have c1:vw ((t.length-n:Nat):Int) (t.length:Int) t=t.drop (t.length-n):=by rw[jH,List.take_length]
  simp only[e2,c0,c1]
  rw[zp _ (by omega),fh _ (by omega) (by omega) (by omega),zp _ (by simp; omega),fh _ (by omega) (by omega) (by omega),zp _ (by simp; omega),z7]
theorem Br(a:Rat):(oF a).run=some (QS a.1):=by
 unfold oF QS; rw[y5]; split<;>rfl
theorem iL(b:Bool):(dJ b).run=some (QS b):=by
 unfold dJ QS; rw[y5]; split<;>rfl
theorem nn(b:Bool):(QS b).length<=1:=by unfold QS; split<;>simp
theorem eJ(n k:Nat)(h:(zu n).length<=k):(pr n).length<=18*k+1:=by
 unfold pr
 split
 ·simp
 ·obtain⟨z,hz⟩:=I0 n
  have h1:=V4 n k (zR.1 h)
  have h2:=congrArg List.length hz
  rw[List.length_append]at h2
  rw[Ih]
  simp only[qG,List.length_map,List.length_reverse]
  omega
theorem M9(s:ze)(n:Nat):(UB s n).length<=s.length+n+2:=by
 unfold UB
 split
 ·omega
 ·have:=Zs (n+1-s.length)
  simp[this]; omega
theorem OM(k:Nat)(s:ze):jS [48] k++([48]++s)=jS [48] (k+1)++s:=by
 induction k with
 | zero=>rfl
 | succ k ih=>simp only[jS,List.append_assoc]at ih ⊢; rw[ih]
theorem ES(n:List Int)(hn:zm n)(ln:n.length<=1000000)(least:Nat)(hl:least<=100000):(ik n (least:Int)).run=some (jS [48] (least-(pr (nv n)).length)++pr (nv n)):=by
 have W4:=eJ (nv n) 1000000 (Nat.le_trans (zw hn) ln)
 have loop:=vI (r:=jC (least:Int)) (λs:ze=>s.length<=100000000) (λs=>least-s.length) (λs=>jS [48] (least-s.length)++s) ?_ (s:=pr (nv n)) (by omega)
 ·have Uy:(p0 (least:Int) (pr (nv n))).run=_:=loop
  unfold ik
  rw[z6 (eU n hn ln),z6 Uy,z7]
 ·intro s hs
  by_cases h:s.length<least
  ·left
   refine⟨[48]++s,?_,by simp; omega,by simp; omega,?_⟩
   ·unfold jC
    rw[za (by simpa using h),zp _ (by simp; omega),z7]; rfl
   ·rw[show least-s.length=(least-([48]++s).length)+1 by simp; omega,<- OM]
  ·right
   unfold jC
   rw[z8 (by simpa using h),z7,show least-s.length=0 by omega]; rfl
theorem z6g(n:Nat):1<=(pr n).length:=by
 unfold pr
 split
 ·simp
 ·rename_i h
  rw[cX h]; simp
theorem Ob(neg:Bool)(n:Nat)(k:Nat)(hk:k<=1000)(hn:(zu n).length<=100000):(mq neg (zu n) (k:Int)).run=some (QS (neg&&decide (n≠0))++UB (pr n) k):=by
 have hd:=ES (zu n) (zn n) (by omega) (k+1) (by omega)
 rw[zW]at hd
 have W4:=eJ n 100000 hn
 have hpp:=z6g n
 have hl:=Zs (k+1-(pr n).length)
 have hsg:decide ((0:Int)<((zu n).length:Int))=decide (n≠0):=by
  by_cases c:n=0
  ·subst c; rw[ql]; rfl
  ·have:(zu n).length≠0:=λh=>c (qZ.1 (List.eq_nil_of_length_eq_zero h))
   rw[decide_eq_true (by omega),decide_eq_true c]
 unfold mq
 rw[i1 k (by omega),z6 hd,hsg]
 have hpt:(bif decide ((0:Int)<(k:Int))then cat (cat (vw 0 (zF (((jS [48] (k+1-(pr n).length)++pr n).length:Int)-(k:Int))) (jS [48] (k+1-(pr n).length)++pr n)) [46]) (vw (zF (((jS [48] (k+1-(pr n).length)++pr n).length:Int)-(k:Int))) ((jS [48] (k+1-(pr n).length)++pr n).length:Int) (jS [48] (k+1-(pr n).length)++pr n))else(jS [48] (k+1-(pr n).length)++pr n))=UB (pr n) k:=by
  unfold UB
  by_cases c:k=0
  ·subst c
   rw[show decide ((0:Int)<((0:Nat):Int))=false from rfl,cond_false,if_pos rfl,show 0+1-(pr n).length=0 by omega]; rfl
  ·rw[decide_eq_true (by omega),cond_true,if_neg c]
   generalize hR:jS [48] (k+1-(pr n).length)++pr n=t
   have htl:t.length=(k+1-(pr n).length)+(pr n).length:=by rw[<- hR,List.length_append,hl]
   have e2:zF ((t.length:Int)-(k:Int))=((t.length-k:Nat):Int):=by rw[zA (by omega) (by omega)]; omega
   have c0:vw 0 ((t.length-k:Nat):Int) t=t.take (t.length-k):=by have:=jH t 0 (t.length-k); simpa using this
   have c1:vw ((t.length-k:Nat):Int) (t.length:Int) t=t.drop (t.length-k):=by rw[jH,List.take_length]
   rw[e2,c0,c1]; rfl
 have Bc:=M9 (pr n) k
 dsimp only; rw[hpt]
 generalize hR:jS [48] (k+1-(pr n).length)++pr n=t
 have htl:t.length=(k+1-(pr n).length)+(pr n).length:=by rw[<- hR,List.length_append,hl]
 have e2:zF ((t.length:Int)-(k:Int))=((t.length-k:Nat):Int):=by rw[zA (by omega) (by omega)]; omega
 rw[zb (λHZ=>by
  have c0:vw 0 ((t.length-k:Nat):Int) t=t.take (t.length-k):=by have:=jH t 0 (t.length-k); simpa using this
  have c1:vw ((t.length-k:Nat):Int) (t.length:Int) t=t.drop (t.length-k):=by rw[jH,List.take_length]
  rw[e2,c0,c1]
  refine⟨⟨by omega,by omega,by omega⟩,by simp; omega,⟨by omega,by omega,by omega⟩,by simp[cat]; omega⟩)]
 cases neg with
 | true =>
  have hs1:=nn (decide (n≠0))
  rw[zj,z6 (iL _),zp _ (by omega),z7,Bool.true_and]; rfl
 | false =>
  have hs1:=nn false
  rw[zg,z6 (iL _),zp _ (by omega),z7,Bool.false_and]; rfl
def qs(neg:Bool)(N D:Nat):Nat->Nat->ze×Bool
 | _,0=>([],false)
 | k,f+1=>if N*10 ^ k % D=0 then(QS neg++UB (pr (N*10 ^ k / D)) k,true)else qs neg N D (k+1) f
theorem lA(n:Nat):(((zu n).length:Int)==0)=decide (n=0):=by
 by_cases c:n=0
 ·subst c; rw[ql]; rfl
 ·have:(zu n).length≠0:=λh=>c (qZ.1 (List.eq_nil_of_length_eq_zero h))
  rw[decide_eq_false c]; simpa using this
theorem sA(a:Rat)(h:wh 1000 a):(lq a).run=some (qs (norm a).1 (nv (norm a).2.1) (nv (norm a).2.2.1) 0 61):=by
 have kK:=ki (by omega) h
 have hD:=eI a.1 (nv a.2.1) (nv a.2.2.1)
 have TE:=Vz a (ez h (by omega))
 unfold lq
 rw[z6 TE]
 change nv (norm a).2.2.1≠0 at hD
 clear TE
 generalize norm a=v at *
 obtain⟨hn,hd,ln,ld⟩:=kK
 have loop:=vI (r:=k8) (λs:Int×Rat=>∃ k:Nat,s=((k:Int),v)/\k<=61) (λs=>61-s.1.toNat)
  (λs=>if(qs v.1 (nv v.2.1) (nv v.2.2.1) s.1.toNat (61-s.1.toNat)).2=true then .inr ((qs v.1 (nv v.2.1) (nv v.2.2.1) s.1.toNat (61-s.1.toNat)).1,true,v)else .inl v) ?_ (s:=(0,v)) ⟨0,rfl,by omega⟩
 ·have Uy:(Qy (0,v)).run=_:=loop
  rw[z6 Uy]
  have hex:∀ f k,(qs v.1 (nv v.2.1) (nv v.2.2.1) k f).2=false->(qs v.1 (nv v.2.1) (nv v.2.2.1) k f).1=[]:=by
   intro f
   induction f with
   | zero=>intro k _; rfl
   | succ f ih =>
    intro k hk
    unfold qs at hk ⊢
    split at hk
    ·cases hk
    ·rename_i c; rw[if_neg c]; exact ih _ hk
  have h2:=hex 61 0
  simp only[Int.toNat_zero,Nat.sub_zero]
  generalize qs v.1 (nv v.2.1) (nv v.2.2.1) 0 61=z at *
  obtain⟨z1,z2⟩:=z
  cases z2 with
  | true=>simp
  | false=>simp at h2 ⊢; exact h2
 ·rintro _ ⟨k,rfl,hk⟩
  simp only[Int.toNat_natCast]
  by_cases qu:k<61
  ·have z6N:=rC k
   have hm:=oP v.2.1 (zu (10 ^ k)) hn (zn _) (by omega) (by omega)
   rw[zW]at hm
   have hml:=Nat.le_trans (Ll (nv v.2.1) (10 ^ k)) (Nat.add_le_add (zw hn) z6N)
   have hdm:=yZ (zu (nv v.2.1*10 ^ k)) v.2.2.1 (zn _) hd (by omega) (by omega)
   rw[zW,if_neg hD]at hdm
   have hq:=uS (Nat.div_le_self (nv v.2.1*10 ^ k) (nv v.2.2.1))
   have hpr:=iR (zu (nv v.2.1*10 ^ k / nv v.2.2.1)) (zn _) (by omega)
   rw[zW]at hpr
   have W4:=eJ (nv v.2.1*10 ^ k / nv v.2.2.1) 2000 (by omega)
   have Bc:=M9 (pr (nv v.2.1*10 ^ k / nv v.2.2.1)) k
   have hsl:=nn v.1
   have ef:61-k=(61-(k+1))+1:=by omega
   rw[ef,qs]
   by_cases c:nv v.2.1*10 ^ k % nv v.2.2.1=0
   ·right
    rw[if_pos c,if_pos rfl]
    unfold k8
    rw[za (decide_eq_true (by omega)),z6 (oD k (by omega)),z6 hm,z6 hdm]
    simp only
    rw[za (by rw[lA]; exact decide_eq_true c),z6 (Br v),z6 hpr,z6 (Bu _ k (by omega) (by omega)),zp _ (by omega),z7]; rfl
   ·left
    rw[if_neg c]
    refine⟨(((k+1:Nat):Int),v),?_,⟨k+1,rfl,by omega⟩,by simp only[Int.toNat_natCast]; omega,by first | trivial | simp only[Int.toNat_natCast]⟩
    unfold k8
    rw[za (decide_eq_true (by omega)),z6 (oD k (by omega)),z6 hm,z6 hdm]
    simp only
    rw[z8 (by rw[lA]; exact decide_eq_false c),z7,i1 k (by omega)]
  ·right
   have:k=61:=by omega
   subst this
   unfold k8
   rw[z8 (decide_eq_false (by omega)),z7]; rfl
theorem pK(a:Rat)(h:wh 1000 a):(bq a).run=some (qs (norm a).1 (nv (norm a).2.1) (nv (norm a).2.2.1) 0 61):=by
 have kK:=ki (by omega) h
 have hD:=eI a.1 (nv a.2.1) (nv a.2.2.1)
 have hN:=z0J a.1 (nv a.2.1) (nv a.2.2.1)
 have TE:=dE a (ez h (by omega))
 unfold bq
 rw[z6 TE]
 change nv (norm a).2.2.1≠0 at hD
 change (norm a).1=true->nv (norm a).2.1≠0 at hN
 clear TE
 generalize norm a=v at *
 obtain⟨hn,hd,ln,ld⟩:=kK
 have loop:=vI (r:=jb) (λs:List Int×Int×Rat=>∃ k:Nat,s=(zu (10 ^ k),(k:Int),v)/\k<=61) (λs=>61-s.2.1.toNat)
  (λs=>if(qs v.1 (nv v.2.1) (nv v.2.2.1) s.2.1.toNat (61-s.2.1.toNat)).2=true then .inr ((qs v.1 (nv v.2.1) (nv v.2.2.1) s.2.1.toNat (61-s.2.1.toNat)).1,true,v)else .inl v) ?_ (s:=([1],0,v)) ⟨0,by rw[Nat.pow_zero,fI]; rfl,by omega⟩
 ·have Uy:(sI ([1],0,v)).run=_:=loop
  rw[z6 Uy]
  have hex:∀ f k,(qs v.1 (nv v.2.1) (nv v.2.2.1) k f).2=false->(qs v.1 (nv v.2.1) (nv v.2.2.1) k f).1=[]:=by
   intro f
   induction f with
   | zero=>intro k _; rfl
   | succ f ih =>
    intro k hk
    unfold qs at hk ⊢
    split at hk
    ·cases hk
    ·rename_i c; rw[if_neg c]; exact ih _ hk
  have h2:=hex 61 0
  simp only[Int.toNat_zero,Nat.sub_zero]
  generalize qs v.1 (nv v.2.1) (nv v.2.2.1) 0 61=z at *
  obtain⟨z1,z2⟩:=z
  cases z2 with
  | true=>simp
  | false=>simp at h2 ⊢; exact h2
 ·rintro _ ⟨k,rfl,hk⟩
  simp only[Int.toNat_natCast]
  by_cases qu:k<61
  ·have z6N:=rC k
   have hm:=Zh v.2.1 (zu (10 ^ k)) hn (zn _) (by omega) (by omega)
   rw[zW]at hm
   have hml:=Nat.le_trans (Ll (nv v.2.1) (10 ^ k)) (Nat.add_le_add (zw hn) z6N)
   have hdm:=yi (zu (nv v.2.1*10 ^ k)) v.2.2.1 (zn _) hd (by omega) (by omega)
   rw[zW,if_neg hD]at hdm
   have hq:=uS (Nat.div_le_self (nv v.2.1*10 ^ k) (nv v.2.2.1))
   have hpt:=Ob v.1 (nv v.2.1*10 ^ k / nv v.2.2.1) k (by omega) (by omega)
   have h10:=Zh (zu (10 ^ k)) [10] (zn _) (by intro x hx; simp at hx; omega) (by omega) (by simp)
   rw[zW,show nv [10]=10 from rfl,<- Nat.pow_succ]at h10
   have ef:61-k=(61-(k+1))+1:=by omega
   rw[ef,qs]
   by_cases c:nv v.2.1*10 ^ k % nv v.2.2.1=0
   ·right
    have hsg:(v.1&&decide (nv v.2.1*10 ^ k / nv v.2.2.1≠0))=v.1:=by
     cases hv:v.1 with
     | false=>rfl
     | true =>
      have h1:=hN hv
      have h2:nv v.2.1*10 ^ k≠0:=Nat.mul_ne_zero h1 (Nat.pos_iff_ne_zero.1 (Nat.pow_pos (by omega)))
      have h3:nv v.2.1*10 ^ k / nv v.2.2.1≠0:=by
       intro z
       have:=Nat.div_add_mod (nv v.2.1*10 ^ k) (nv v.2.2.1)
       rw[z,c]at this
       exact h2 this.symm
      rw[decide_eq_true h3]; rfl
    rw[hsg]at hpt
    rw[if_pos c,if_pos rfl]
    unfold jb
    rw[za (decide_eq_true (by omega)),z6 hm,z6 hdm]
    simp only
    rw[za (by rw[lA]; exact decide_eq_true c),z6 hpt,z7]
   ·left
    rw[if_neg c]
    refine⟨(zu (10 ^ (k+1)),((k+1:Nat):Int),v),?_,⟨k+1,rfl,by omega⟩,by simp only[Int.toNat_natCast]; omega,by first | trivial | simp only[Int.toNat_natCast]⟩
    unfold jb
    rw[za (decide_eq_true (by omega)),z6 hm,z6 hdm]
    simp only
    rw[z8 (by rw[lA]; exact decide_eq_false c),z6 h10,z7,i1 k (by omega)]
  ·right
   have:k=61:=by omega
   subst this
   unfold jb
   rw[z8 (decide_eq_false (by omega)),z7]; rfl
def vg(a:Rat):ze:=if nv a.2.2.1=1 then QS a.1++pr (nv a.2.1)else QS a.1++pr (nv a.2.1)++([47]++pr (nv a.2.2.1))
theorem K1(a:Rat)(h:wh 1000 a):(lI a).run=some (vg (norm a)):=by
 have kK:=ki (by omega) h
 have TE:=Vz a (ez h (by omega))
 unfold lI
 rw[z6 TE]
 clear TE
 generalize norm a=v at *
 obtain⟨hn,hd,ln,ld⟩:=kK
 have hpn:=iR v.2.1 hn (by omega)
 have hpd:=iR v.2.2.1 hd (by omega)
 have hl1:=eJ (nv v.2.1) 1000 (Nat.le_trans (zw hn) ln)
 have fy:=eJ (nv v.2.2.1) 1000 (Nat.le_trans (zw hd) ld)
 have hsl:=nn v.1
 have h1:(yC 1).run=some (zu 1):=yz 1 (by omega)
 have hc:=pz v.2.2.1 (zu 1) hd (zn _) (by omega) (by rw[fI]; simp)
 rw[zW]at hc
 rw[z6 (Br v),z6 hpn,zp _ (by omega),z6 h1,z6 hc]
 unfold vg so
 by_cases c:nv v.2.2.1=1
 ·rw[c,if_pos rfl,if_neg (by omega),if_neg (by omega),z8 (by rfl),z7]; rfl
 ·rw[if_neg c,za (by
   split
   ·rfl
   ·split
    ·rfl
    ·omega),z6 hpd]
  simp only[cat]
  rw[zp _ (by simp; omega),zp _ (by simp; omega),z7]
theorem Ul(a:Rat)(h:wh 1000 a):(mD a).run=some (vg (norm a)):=by
 have kK:=ki (by omega) h
 have TE:=dE a (ez h (by omega))
 have zhu:∃ D,(norm a).2.2.1=zu D:=by
  unfold norm wM
  split
  ·exact⟨1,fI.symm⟩
  ·exact⟨_,rfl⟩
 unfold mD
 rw[z6 TE]
 clear TE
 generalize norm a=v at *
 obtain⟨hn,hd,ln,ld⟩:=kK
 obtain⟨D,hD⟩:=zhu
 have hpn:=eU v.2.1 hn (by omega)
 have hpd:=eU v.2.2.1 hd (by omega)
 have hl1:=eJ (nv v.2.1) 1000 (Nat.le_trans (zw hn) ln)
 have fy:=eJ (nv v.2.2.1) 1000 (Nat.le_trans (zw hd) ld)
 have hsl:=nn v.1
 rw[z6 (iL v.1),z6 hpn,zp _ (by omega)]
 rw[zb (λhz=>⟨by omega,by simp at hz; omega⟩)]
 have zae:(((v.2.2.1.length:Int) != 1)||(nth v.2.2.1 0 (zk (.int .u32)) != 1)) = !decide (nv v.2.2.1=1):=by
  rw[hD,zW]
  by_cases c:D=1
  ·subst c; rw[fI]; rfl
  ·rw[decide_eq_false c]
   by_cases z:D=0
   ·subst z; rw[ql]; rfl
   ·rw[kt z]
    by_cases y:D / 4294967296=0
    ·rw[y,ql]
     have vM:¬ (((D % 4294967296:Nat):Int)=1):=by omega
     have e9:nth [((D % 4294967296:Nat):Int)] 0 (zk (.int .u32))=((D % 4294967296:Nat):Int):=rfl
     rw[e9]
     generalize ((D % 4294967296:Nat):Int)=w at *
     simp[vM]
    ·rw[kt y]; simp; left; omega
 rw[zae]
 unfold vg
 by_cases c:nv v.2.2.1=1
 ·rw[if_pos c,decide_eq_true c,z8 (by rfl),z7]; rfl
 ·rw[if_neg c,decide_eq_false c,za (by rfl)]
  simp only[cat]
  rw[zp _ (by simp; omega),z6 hpd,zp _ (by simp; omega),z7]
  simp
end Go.AM.Lf
