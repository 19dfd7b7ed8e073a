/-
  Plain laws of the lifted program, part 0.
-/
import Derived.Test.YthhgaidlooddpaaGreatDoorLf0
import Derived.Test.YthhgaidlooddpaaGreatDoorAmA
import Derived.Test.YthhgaidlooddpaaGreatDoorAmD
set_option linter.unusedVariables false
open Go.AM.T (LZ V4 c6 c9 cR j6 jv kH kZ nq qq wZ xw z6 z7 zH zP za zc zd zh zi zm)
namespace Go.AM.PL
def mZ{α:Type}(p:α->Bool)(i:Int):List α->Int
 | [] => -1
 | x::r=>if p x=true then i else mZ p (i+1) r
theorem sJ{α:Type}(p:α->Bool)(l:List α)(i:Int)(h:0<=i):decide (0<=mZ p i l)=l.any p:=by
 induction l generalizing i with
 | nil=>rfl
 | cons x r ih =>
  simp only[mZ,List.any_cons]
  split
  ·rename_i hp; rw[hp]; simp[h]
  ·rename_i hp; rw[ih (i+1) (by omega)]; simp[hp]
theorem nM{α:Type}(l:List α)(d:α)(p:α->Bool){r:Int->T (Int⊕(Unit⊕Int))}
  (h1:∀ i,0<=i->i<(l.length:Int)->p (nth l i d)=true->(r i).run=some (.inr (.inr i)))
  (h2:∀ i,0<=i->i<(l.length:Int)->p (nth l i d)=false->(r i).run=some (.inl (i+1)))
  (h3:∀ i,¬ i<(l.length:Int)->(r i).run=some (.inr (.inl ()))):(T.loop r 0).run=some (if mZ p 0 l = -1 then .inl ()else .inr (mZ p 0 l)):=by
 have:=kZ (r:=r) (λi=>0<=i) (λi=>((l.length:Int)-i).toNat) (λi=>if mZ p i (l.drop i.toNat) = -1 then .inl ()else .inr (mZ p i (l.drop i.toNat))) (λi h => ?_) (s:=0) (Int.le_refl 0)
 ·simpa using this
 ·by_cases hi:i<l.length
  ·rw[Dy l d h hi]
   cases hp:p (nth l i d)with
   | true =>
    right
    have:¬ i = -1:=by omega
    rw[h1 i h hi hp]
    simp[mZ,hp,this]
   | false =>
    left
    exact⟨i+1,h2 i h hi hp,by omega,by omega,by simp[mZ,hp]⟩
  ·right
   rw[IU _ hi,h3 i hi]
   rfl
theorem wu(a b:zf):zk a b=decide (a=b):=by
 unfold zk
 by_cases h:a=b
 ·subst h; simp
 ·simp[h]
end Go.AM.PL
namespace Go.AM.Lf
open PL
theorem yw{α:Type}{l:List α}{i:Int}{d:α}(h:0<=i)(hi:i<(l.length:Int)):nth l i d∈l:=by
 unfold nth
 have:i.toNat<l.length:=by omega
 simp[List.getD_eq_getElem?_getD,this]
end Go.AM.Lf
namespace Go.AM.PL
def nv:List Int->Nat
 | []=>0
 | x::l=>x.toNat+4294967296*nv l
def zu(l:List Int):Prop:=∀ x∈l,0<=x/\x<4294967296
def zO(n:Nat):List Int:=if h:n=0 then[]else((n % 4294967296:Nat):Int)::zO (n / 4294967296)
termination_by n
decreasing_by omega
theorem qM:zO 0=[]:=by rw[zO]; rfl
theorem yz{n:Nat}(h:n≠0):zO n=((n % 4294967296:Nat):Int)::zO (n / 4294967296):=by rw[zO,dif_neg h]
theorem iZ:zu []:=λ_ h=>nomatch h
theorem dO{x:Int}{l:List Int}:zu (x::l)↔(0<=x/\x<4294967296)/\zu l:=by
 unfold zu; simp[List.forall_mem_cons]
theorem nk{a b:List Int}:zu (a++b)↔zu a/\zu b:=by
 unfold zu; simp only[List.mem_append]
 exact⟨λh=>⟨λx hx=>h x (.inl hx),λx hx=>h x (.inr hx)⟩,λh x hx=>hx.elim (h.1 x) (h.2 x)⟩
theorem mj{a:List Int}(h:zu a)(n:Nat):zu (a.take n):=λx hx=>h x (List.mem_of_mem_take hx)
theorem br{a:List Int}(h:zu a)(n:Nat):zu (a.drop n):=λx hx=>h x (List.mem_of_mem_drop hx)
theorem wy(n:Nat):zu (List.replicate n 0):=λx hx=>by
 have:=(List.mem_replicate.1 hx).2; omega
theorem cB{a:List Int}(h:zu a)(i:Nat){x:Int}(h0:0<=x)(h1:x<4294967296):zu (a.set i x):=λy hy=>by
 rcases List.mem_or_eq_of_mem_set hy with h' | h'
 ·exact h y h'
 ·subst h'; exact⟨h0,h1⟩
theorem X3{a:List Int}(h:zu a)(i:Int):0<=nth a i 0/\nth a i 0<4294967296:=by
 unfold nth
 rw[List.getD_eq_getElem?_getD]
 cases hx:a[i.toNat]? with
 | none=>simp
 | some x=>exact h x (List.mem_of_getElem? hx)
theorem zy(n:Nat):zu (zO n):=by
 induction n using Nat.strongRecOn with
 | _ n ih =>
  by_cases h:n=0
  ·subst h; rw[qM]; exact iZ
  ·rw[yz h]
   exact dO.2 ⟨by omega,ih _ (by omega)⟩
@[simp] theorem Kz:nv []=0:=rfl
@[simp] theorem bU(x:Int)(l:List Int):nv (x::l)=x.toNat+4294967296*nv l:=rfl
@[simp] theorem qf(n:Nat):nv (zO n)=n:=by
 induction n using Nat.strongRecOn with
 | _ n ih =>
  by_cases h:n=0
  ·subst h; rw[qM]; rfl
  ·rw[yz h,bU,ih _ (by omega)]; omega
theorem gM(a b:List Int):nv (a++b)=nv a+4294967296 ^ a.length*nv b:=by
 induction a with
 | nil=>simp
 | cons x a ih=>simp only[List.cons_append,bU,ih,List.length_cons,Nat.pow_succ,Nat.mul_add]; rw[<- Nat.mul_assoc,Nat.mul_comm 4294967296 (4294967296 ^ a.length)]; omega
theorem ZK{l:List Int}(h:zu l):nv l<4294967296 ^ l.length:=by
 induction l with
 | nil=>simp
 | cons x l ih =>
  have h':=dO.1 h
  have:=ih h'.2
  simp only[bU,List.length_cons,Nat.pow_succ]
  omega
@[simp] theorem M6(n:Nat):nv (List.replicate n 0)=0:=by
 induction n with
 | zero=>rfl
 | succ n ih=>simp[List.replicate_succ,ih]
def tx(l:List Int):Prop:=∀ x,l.getLast? = some x->x≠0
theorem oJ:tx []:=λ_ h=>nomatch h
theorem ZW{x:Int}{l:List Int}(h:tx (x::l)):tx l:=by
 cases l with
 | nil=>exact oJ
 | cons y l=>intro z hz; exact h z (by simpa[List.getLast?_cons_cons]using hz)
theorem SA{l:List Int}(h:zu l)(ht:tx l)(hn:l≠[]):nv l≠0:=by
 induction l with
 | nil=>exact absurd rfl hn
 | cons x l ih =>
  have h':=dO.1 h
  cases l with
  | nil =>
   have:=ht x rfl
   simp; omega
  | cons y l =>
   have:=ih h'.2 (ZW ht) (by simp)
   rw[bU]; omega
theorem pH{l:List Int}(h:zu l)(ht:tx l):zO (nv l)=l:=by
 induction l with
 | nil=>exact qM
 | cons x l ih =>
  have h':=dO.1 h
  have h1:=ih h'.2 (ZW ht)
  rw[yz (SA h ht (by simp)),bU]
  have e1:(x.toNat+4294967296*nv l) % 4294967296=x.toNat:=by omega
  have e2:(x.toNat+4294967296*nv l) / 4294967296=nv l:=by omega
  rw[e1,e2,h1]
  congr 1; omega
theorem iD(n:Nat):tx (zO n):=by
 induction n using Nat.strongRecOn with
 | _ n ih =>
  by_cases h:n=0
  ·subst h; rw[qM]; exact oJ
  ·rw[yz h]
   intro x hx
   by_cases h2:n / 4294967296=0
   ·rw[h2,qM]at hx
    simp at hx; omega
   ·have:=ih (n / 4294967296) (by omega)
    have vP:zO (n / 4294967296)≠[]:=by rw[yz h2]; simp
    refine this x ?_
    rw[<- hx]
    cases hc:zO (n / 4294967296)with
    | nil=>exact absurd hc vP
    | cons y l=>rw[List.getLast?_cons_cons]
theorem wW{n:Nat}:zO n=[]↔n=0:=by
 constructor
 ·intro h; rw[<- qf n,h]; rfl
 ·rintro rfl; exact qM
theorem tA(l:List Int):nv (l++[0])=nv l:=by simp[gM]
theorem zM{n k:Nat}:(zO n).length<=k↔n<4294967296 ^ k:=by
 induction k generalizing n with
 | zero =>
  simp only[Nat.le_zero_eq,List.length_eq_zero_iff,wW,Nat.pow_zero]; omega
 | succ k ih =>
  by_cases h:n=0
  ·subst h; rw[qM]; simp[Nat.pow_pos]
  ·rw[yz h,List.length_cons,Nat.pow_succ,Nat.add_le_add_iff_right,ih]
   rw[Nat.div_lt_iff_lt_mul (by omega)]
theorem Ke{n k:Nat}:k<(zO n).length↔4294967296 ^ k<=n:=by
 have:=zM (n:=n) (k:=k); omega
theorem q7{l:List Int}(h:zu l):(zO (nv l)).length<=l.length:=zM.2 (ZK h)
theorem V5{a b:List Int}(i:Int)(h:(a.length:Int)<=i):nth (a++b) i 0=nth b (i-a.length) 0:=by
 unfold nth
 rw[List.getD_eq_getElem?_getD,List.getD_eq_getElem?_getD,List.getElem?_append_right (by omega)]
 congr 2; omega
theorem lJ(a:List Int)(i:Nat)(h:i<a.length):a.take (i+1)=a.take i++[nth a i 0]:=by
 rw[List.take_succ_eq_append_getElem h]; simp[nth,h]
theorem Vd{a:List Int}{i:Nat}(h:i<a.length):nv (a.take (i+1))=nv (a.take i)+4294967296 ^ i*(nth a i 0).toNat:=by
 rw[lJ a i h,gM]
 have:(a.take i).length=i:=by simp; omega
 simp[this]
theorem yL(a:List Int)(i:Nat)(h:i<=a.length):nv a=nv (a.take i)+4294967296 ^ i*nv (a.drop i):=by
 have:=gM (a.take i) (a.drop i)
 rw[List.take_append_drop]at this
 rw[this]; congr 3; simp; omega
theorem UF{a:List Int}{i:Nat}(h:i<a.length):nv (a.drop i)=(nth a i 0).toNat+4294967296*nv (a.drop (i+1)):=by
 rw[List.drop_eq_getElem_cons h,bU]; simp[nth,h,List.getD_eq_getElem?_getD]
theorem pO{α:Type}(a:List α)(i j:Nat)(x:α)(h:j<=i):(a.set i x).take j=a.take j:=by
 rw[List.take_set_of_le h]
theorem lS(a:List Int)(i:Nat)(x:Int)(h:i<a.length):(a.set i x).take (i+1)=a.take i++[x]:=by
 rw[lJ _ _ (by simpa using h),List.take_set_of_le (Nat.le_refl _)]
 simp[nth,h]
theorem uh(a:List Int)(i:Nat)(x:Int):(a.set i x).drop (i+1)=a.drop (i+1):=by
 rw[List.drop_set_of_lt (by omega)]
end Go.AM.PL
namespace Go.AM.T
variable {σ ρ:Type}
theorem xW{r:σ->T (σ⊕ρ)}(I:σ->Prop)(μ:σ->Nat)(Q:ρ->Prop)
  (h:∀ s,I s->(∃ s',(r s).run=some (.inl s')/\I s'/\μ s'<μ s)\/(∃ x,(r s).run=some (.inr x)/\Q x)) {s:σ} (hs:I s):∃ x,(loop r s).run=some x/\Q x:=by
 generalize hm:μ s=m
 induction m using Nat.strongRecOn generalizing s with
 | _ m ih =>
  rcases h s hs with⟨s',h1,h2,h3⟩ | ⟨x,h1,h2⟩
  ·rw[j6 h1]
   exact ih (μ s') (by omega) h2 rfl
  ·exact⟨x,xw h1,h2⟩
end Go.AM.T
namespace Go.AM.PL
def lm(a:List Int)(i:Nat):Nat:=(nth a (i:Int) 0).toNat
theorem uV{a:List Int}(h:zu a)(i:Nat):lm a i<4294967296:=by have:=X3 h i; unfold lm; omega
theorem uv{a:List Int}(h:zu a)(i:Nat):nth a (i:Int) 0=(lm a i:Int):=by have:=X3 h i; unfold lm; omega
theorem yC{a:List Int}(h:zu a)(i:Nat):kR a i 0=(lm a i:Int):=by have:=uv h i; unfold nth at this; unfold kR; simpa using this
theorem PH{a:List Int}{i:Nat}(h:a.length<=i):lm a i=0:=by
 unfold lm nth; simp[List.getD_eq_getElem?_getD,List.getElem?_eq_none h]
theorem zU(a:List Int)(i:Nat):nv (a.take (i+1))=nv (a.take i)+4294967296 ^ i*lm a i:=by
 by_cases h:i<a.length
 ·exact Vd h
 ·rw[PH (by omega),List.take_of_length_le (by omega),List.take_of_length_le (by omega)]; simp
theorem xr{a:List Int}{i:Nat}(h:a.length<=i):nv (a.take i)=nv a:=by rw[List.take_of_length_le h]
theorem oX{a:List Int}{i j:Nat}{x:Int}(h:i<a.length):lm (a.set i x) j=if i=j then x.toNat else lm a j:=by
 unfold lm nth
 simp only[Int.toNat_natCast,List.getD_eq_getElem?_getD,List.getElem?_set]
 by_cases e:i=j
 ·subst e; simp[h]
 ·simp[e]
theorem Wf{a:List Int}{i:Nat}(x:Int)(h:i<a.length):nv (a.set i x)+4294967296 ^ i*lm a i=nv a+4294967296 ^ i*x.toNat:=by
 have h1:=yL (a.set i x) (i+1) (by simp; omega)
 have h2:=yL a (i+1) (by omega)
 rw[uh,lS a i x h,gM]at h1
 rw[zU]at h2
 have h3:(a.take i).length=i:=by simp; omega
 rw[h3]at h1
 simp only[bU,Kz,Nat.mul_zero,Nat.add_zero]at h1
 omega
theorem vU{a:List Int}{i:Nat}(x:Int)(h:i<a.length):nv ((a.set i x).take (i+1))=nv (a.take i)+4294967296 ^ i*x.toNat:=by
 rw[lS a i x h,gM]
 have h3:(a.take i).length=i:=by simp; omega
 rw[h3]; simp
theorem UB(i:Nat):0<4294967296 ^ i:=Nat.pow_pos (by omega)
theorem vZ{a:List Int}(h:zu a)(i:Nat):nv (a.take i)<4294967296 ^ i:=by
 have:=ZK (mj h i)
 have h2:(4294967296:Nat) ^ (a.take i).length<=4294967296 ^ i:=Nat.pow_le_pow_right (by omega) (by simp; omega)
 omega
def Vb(a b:Nat):Int:=if a<b then -1 else if b<a then 1 else 0
theorem EI{r:Int->T (Int⊕(Unit⊕Int))}(x y:List Int)(hx:zu x)(hy:zu y)(hl:x.length=y.length)
  (h:∀ i:Nat,i<x.length->(r (i:Int)).run=some (if nth x i 0<nth y i 0 then .inr (.inr (-1))else if nth y i 0<nth x i 0 then .inr (.inr 1)else .inl ((i:Int)-1)))
  (h0:(r (-1)).run=some (.inr (.inl ()))):(T.loop r ((x.length:Int)-1)).run=some (if nv x<nv y then .inr (-1)else if nv y<nv x then .inr 1 else .inl ()):=by
 have key:∀ n:Nat,n<=x.length->(T.loop r ((n:Int)-1)).run=some (if nv (x.take n)<nv (y.take n)then .inr (-1)else if nv (y.take n)<nv (x.take n)then .inr 1 else .inl ()):=by
  intro n
  induction n with
  | zero=>intro _; simpa using xw h0
  | succ n ih =>
   intro hn
   have e1:((n+1:Nat):Int)-1=(n:Int):=by omega
   rw[e1]
   have hr:=h n (by omega)
   rw[uv hx,uv hy]at hr
   have a1:=vZ hx n
   have a2:=vZ hy n
   rw[zU,zU]
   rcases Nat.lt_trichotomy (lm x n) (lm y n)with c | c | c
   ·have hm:=Nat.mul_le_mul_left (4294967296 ^ n) (show lm x n+1<=lm y n by omega)
    rw[Nat.mul_add]at hm
    rw[if_pos (by omega)]at hr
    rw[if_pos (by omega)]
    exact xw hr
   ·rw[if_neg (by omega),if_neg (by omega)]at hr
    rw[j6 hr,ih (by omega),c]
    simp only[Nat.add_lt_add_iff_right]
   ·have hm:=Nat.mul_le_mul_left (4294967296 ^ n) (show lm y n+1<=lm x n by omega)
    rw[Nat.mul_add]at hm
    rw[if_neg (by omega),if_pos (by omega)]at hr
    rw[if_neg (by omega),if_pos (by omega)]
    exact xw hr
 have:=key x.length (Nat.le_refl _)
 rw[List.take_length]at this
 rw[hl,List.take_length,<- hl]at this
 exact this
theorem p9{A B:Nat}(h:(zO A).length<(zO B).length):A<B:=by
 have h1:=zM.1 (Nat.le_refl (zO A).length)
 have h2:=Ke.1 h
 omega
end Go.AM.PL
namespace Go.AM.PL
theorem Zv(q a b c:Nat):q*(a*c+b)=(q*a)*c+q*b:=by grind
theorem Kv(a b:Nat):(a+1)*b=a*b+b:=by grind
theorem Sy(a b c:Nat):(a+b)*c=a*c+b*c:=by grind
theorem Uk{u2 u1 u0 v1 v2 q r:Nat}(hr:q*v1+r=u2*4294967296+u1)(h:q*v2<=r*4294967296+u0) :
  q*(v1*4294967296+v2)<=u2*18446744073709551616+u1*4294967296+u0:=by
 rw[Zv]
 generalize q*v1=x at *
 generalize q*v2=y at *
 omega
theorem Fp{u2 u1 u0 v1 v2 q r:Nat}(hr:q*v1+r=u2*4294967296+u1)(h:r*4294967296+u0<q*v2) :
  u2*18446744073709551616+u1*4294967296+u0<q*(v1*4294967296+v2):=by
 rw[Zv]
 generalize q*v1=x at *
 generalize q*v2=y at *
 grind
theorem DO{U V q:Nat}(hV:0<V)(h:U<q*V):U / V<q:=(Nat.div_lt_iff_lt_mul hV).2 h
theorem K8{u2 u1 u0 v1 v2:Nat}(hv:0<v1)(hu0:u0<4294967296):(u2*18446744073709551616+u1*4294967296+u0) / (v1*4294967296+v2)<=(u2*4294967296+u1) / v1:=by
 rw[Nat.le_div_iff_mul_le hv]
 have h:=Nat.div_mul_le_self (u2*18446744073709551616+u1*4294967296+u0) (v1*4294967296+v2)
 generalize (u2*18446744073709551616+u1*4294967296+u0) / (v1*4294967296+v2)=q at *
 have e:=Zv q v1 v2 4294967296
 rw[e]at h; omega
theorem BY{u2 u1 u0 v1 v2:Nat}(hv:2147483648<=v1)(QZ:v2<4294967296)(h:u2*18446744073709551616+u1*4294967296+u0<(v1*4294967296+v2+1)*4294967296) :
  (u2*4294967296+u1)<=v1*4294967296+v2/\(u2*4294967296+u1) / v1<=4294967297:=by
 have h1:u2*4294967296+u1<=v1*4294967296+v2:=by omega
 refine⟨h1,?_⟩
 rw[Nat.div_le_iff_le_mul (by omega)]
 omega
theorem Bi{U V D U3 V2 X Y q:Nat}(hU:U=U3*D+X)(hX:X<D)(hV:V=V2*D+Y)(hY:Y<D)(hVt:2147483648*4294967296<=V2)(hUV:U<V*4294967296)(hq:q=min (U3 / V2) 4294967295) :
  U / V<=q/\q<=U / V+1:=by
 have hD:0<D:=by omega
 have hV2:0<V2:=by omega
 have hVp:0<V:=by rw[hV]; have:=Nat.mul_pos hV2 hD; omega
 constructor
 ·rw[hq,Nat.le_min]
  constructor
  ·rw[Nat.le_div_iff_mul_le hV2]
   have h:=Nat.div_mul_le_self U V
   generalize U / V=z at *
   rw[hV,hU]at h
   have e:=Zv z V2 Y D
   rw[e]at h
   have h2:(z*V2)*D<(U3+1)*D:=by 
    rw[Kv]
    generalize z*V2*D=m at *
    generalize z*Y=m2 at *
    omega
   exact Nat.lt_succ_iff.1 (Nat.lt_of_mul_lt_mul_right h2)
  ·have:U / V<4294967296:=(Nat.div_lt_iff_lt_mul hVp).2 (by rw[Nat.mul_comm]; exact hUV)
   omega
 ·have h3:q<=U3 / V2:=by omega
  have h4:q<=4294967295:=by omega
  have h5:q*V2<=U3:=(Nat.le_div_iff_mul_le hV2).1 h3
  cases q with
  | zero=>exact Nat.zero_le _
  | succ q =>
   have:q<=U / V:=by
    rw[Nat.le_div_iff_mul_le hVp,hV,hU]
    have e:=Zv q V2 Y D
    have e2:=Kv q V2
    have h6:(q*V2+V2)*D<=U3*D:=Nat.mul_le_mul_right D (by omega)
    have e3:=Sy (q*V2) V2 D
    have h7:q*Y<=4294967295*D:=Nat.mul_le_mul (by omega) (by omega)
    have h8:4294967295*D<=V2*D:=Nat.mul_le_mul_right D (by omega)
    rw[e]; omega
   omega
end Go.AM.PL
namespace Go.AM.PL
theorem Ve(n:Nat)(h:n<18446744073709551616):IntKind.wrap .u64 (n:Int)=n:=qK (by omega) (by omega)
theorem cV(n:Nat)(h:n<4294967296):IntKind.wrap .u32 (n:Int)=n:=Vk (by omega) (by omega)
theorem yl{n:Nat}(h:n<18446744073709551616):zS (n:Int)=n:=qK (by omega) (by omega)
theorem r7{n:Nat}(h:n<4294967296):vv (n:Int)=n:=Vk (by omega) (by omega)
theorem xX{a:List Int}(h:zu a)(i:Nat){n:Nat}(h1:n<4294967296):zu (a.set i (n:Int)):=cB h i (by omega) (by omega)
theorem Jd{x y:Nat}(hx:x<4294967296)(hy:y<4294967296):Ev .u32 (x:Int) (y:Int)=((x &&& y:Nat):Int):=by
 show IntKind.wrap .u32 (((BitVec.ofInt 32 (x:Int) &&& BitVec.ofInt 32 (y:Int)).toNat:Nat):Int)=_
 have e:(BitVec.ofInt 32 (x:Int) &&& BitVec.ofInt 32 (y:Int)).toNat=x &&& y:=by
  simp[BitVec.ofInt_natCast,Nat.mod_eq_of_lt hx,Nat.mod_eq_of_lt hy]
 rw[e]
 exact cV _ (Nat.lt_of_le_of_lt Nat.and_le_left hx)
theorem sn{x y:Nat}(hx:x<4294967296)(hy:y<4294967296):QI .u32 (x:Int) (y:Int)=((x ||| y:Nat):Int):=by
 show IntKind.wrap .u32 (((BitVec.ofInt 32 (x:Int) ||| BitVec.ofInt 32 (y:Int)).toNat:Nat):Int)=_
 have e:(BitVec.ofInt 32 (x:Int) ||| BitVec.ofInt 32 (y:Int)).toNat=x ||| y:=by
  simp[BitVec.ofInt_natCast,Nat.mod_eq_of_lt hx,Nat.mod_eq_of_lt hy]
 rw[e]
 exact cV _ (Nat.or_lt_two_pow (n:=32) hx hy)
theorem Z2{x y:Nat}(hx:x<4294967296)(hy:y<4294967296):Y2 .u32 (x:Int) (y:Int)=((x ^^^ y:Nat):Int):=by
 show IntKind.wrap .u32 (((BitVec.ofInt 32 (x:Int) ^^^ BitVec.ofInt 32 (y:Int)).toNat:Nat):Int)=_
 have e:(BitVec.ofInt 32 (x:Int) ^^^ BitVec.ofInt 32 (y:Int)).toNat=x ^^^ y:=by
  simp[BitVec.ofInt_natCast,Nat.mod_eq_of_lt hx,Nat.mod_eq_of_lt hy]
 rw[e]
 exact cV _ (Nat.xor_lt_two_pow (n:=32) hx hy)
theorem Oe{x y:Nat}(hx:x<18446744073709551616)(hy:y<18446744073709551616):QI .u64 (x:Int) (y:Int)=((x ||| y:Nat):Int):=by
 show IntKind.wrap .u64 (((BitVec.ofInt 64 (x:Int) ||| BitVec.ofInt 64 (y:Int)).toNat:Nat):Int)=_
 have e:(BitVec.ofInt 64 (x:Int) ||| BitVec.ofInt 64 (y:Int)).toNat=x ||| y:=by
  simp[BitVec.ofInt_natCast,Nat.mod_eq_of_lt hx,Nat.mod_eq_of_lt hy]
 rw[e]
 exact Ve _ (Nat.or_lt_two_pow (n:=64) hx hy)
theorem Ys(x y m:Nat)(hy:y<2 ^ m):x*2 ^ m ||| y=x*2 ^ m+y:=by
 have:=Nat.shiftLeft_add_eq_or_of_lt hy x
 rw[Nat.shiftLeft_eq]at this
 exact this.symm
theorem TB{x:Int}(h0:0<=x)(h1:x<4294967296):cO .u64 x 32=x*4294967296:=by
 have e:cO .u64 x 32=zS (x*4294967296):=rfl
 rw[e,qK (by omega) (by omega)]
theorem z5e{x y:Int}(h0:0<=x)(h1:x<4294967296)(h2:0<=y)(h3:y<4294967296):QI .u64 (cO .u64 x 32) (zS y)=x*4294967296+y:=by
 rw[TB h0 h1,qK h2 (by omega)]
 obtain⟨a,rfl⟩:=Int.eq_ofNat_of_zero_le h0
 obtain⟨b,rfl⟩:=Int.eq_ofNat_of_zero_le h2
 have e:=Oe (x:=a*4294967296) (y:=b) (by omega) (by omega)
 rw[Ys a b 32 (by simpa using by omega)]at e
 simpa using e
theorem IW{x y:Int}(h0:0<=x)(h1:x<4294967296)(h2:0<=y)(h3:y<4294967296):QI .u64 (cO .u64 x 32) y=x*4294967296+y:=by
 have:=z5e h0 h1 h2 h3
 rwa [qK h2 (by omega)]at this
theorem P5{x:Int}(h0:0<=x):vc .u64 x 32=x / 4294967296:=by
 show Int.fdiv x 4294967296=_
 rw[Int.fdiv_eq_ediv_of_nonneg _ (by omega)]
theorem fY{x y:Int}(h:0<=x):Int.tdiv x y=x / y:=Int.tdiv_eq_ediv_of_nonneg h
theorem eP{x y:Int}(h:0<=x):Int.tmod x y=x % y:=Int.tmod_eq_emod_of_nonneg h
theorem z0o{v:Nat}(h:v<4294967296):v / 2147483648=if v.testBit 31=true then 1 else 0:=by
 have e:v.testBit 31=decide (v / 2 ^ 31 % 2=1):=by rw[Nat.testBit_eq_decide_div_mod_eq]
 rw[e]
 by_cases h2:v<2147483648
 ·have:v / 2147483648=0:=by omega
  simp[this]
 ·have:v / 2147483648=1:=by omega
  simp[this]
theorem KJ{v:Nat}(h:v<4294967296):v.testBit 31=decide (2147483648<=v):=by
 rw[Nat.testBit_eq_decide_div_mod_eq]
 by_cases h2:v<2147483648
 ·have:v / 2 ^ 31=0:=by omega
  simp[this]; omega
 ·have:v / 2 ^ 31=1:=by omega
  simp[this]; omega
theorem z2c{x y b:Nat}(hx:x<4294967296)(hy:y<4294967296)(hb:b<=1) :
  vv (vv ((x:Int)-y)-b)=(((x+4294967296*(if x<y+b then 1 else 0))-y-b:Nat):Int):=by
 rw[ic,ic]
 split<;>omega
theorem Is{x y b d:Nat}(hx:x<4294967296)(hy:y<4294967296)(hb:b<=1)(hd:d=(x+4294967296*(if x<y+b then 1 else 0))-y-b) :
  vc .u32 (QI .u32 (Ev .u32 (Y2 .u32 (4294967295:Int) x) y) (Ev .u32 (Y2 .u32 (4294967295:Int) (Y2 .u32 x y)) (d:Int))) 31=if x<y+b then 1 else 0:=by
 have DY:d<4294967296:=by rw[hd]; split<;>omega
 have e1:=Z2 (x:=4294967295) (y:=x) (by omega) hx
 have h1:4294967295 ^^^ x<4294967296:=Nat.xor_lt_two_pow (n:=32) (by omega) hx
 have e2:=Jd h1 hy
 have h2:(4294967295 ^^^ x) &&& y<4294967296:=Nat.lt_of_le_of_lt Nat.and_le_left h1
 have e3:=Z2 hx hy
 have h3:x ^^^ y<4294967296:=Nat.xor_lt_two_pow (n:=32) hx hy
 have e4:=Z2 (x:=4294967295) (y:=x ^^^ y) (by omega) h3
 have h4:4294967295 ^^^ (x ^^^ y)<4294967296:=Nat.xor_lt_two_pow (n:=32) (by omega) h3
 have e5:=Jd h4 DY
 have h5:(4294967295 ^^^ (x ^^^ y)) &&& d<4294967296:=Nat.lt_of_le_of_lt Nat.and_le_left h4
 have e6:=sn h2 h5
 have h6:=Nat.or_lt_two_pow (n:=32) h2 h5
 have ec:(4294967295:Int)=((4294967295:Nat):Int):=rfl
 rw[ec,e1,e2,e3,e4,e5,e6]
 show Int.fdiv _ 2147483648=_
 rw[Int.fdiv_eq_ediv_of_nonneg _ (by omega)]
 have e7:=z0o h6
 have e8:(((((4294967295 ^^^ x) &&& y) ||| ((4294967295 ^^^ (x ^^^ y)) &&& d):Nat):Int)) / 2147483648=(((((4294967295 ^^^ x) &&& y) ||| ((4294967295 ^^^ (x ^^^ y)) &&& d)) / 2147483648:Nat):Int):=by omega
 rw[e8,e7]
 have t1:(4294967295:Nat).testBit 31=true:=by decide
 simp only[Nat.testBit_or,Nat.testBit_and,Nat.testBit_xor,t1,KJ hx,KJ hy,KJ DY]
 by_cases c:x<y+b
 ·rw[if_pos c]at hd ⊢
  by_cases p:2147483648<=x<;>by_cases q:2147483648<=y<;>by_cases r:2147483648<=d<;>simp[p,q,r]<;>omega
 ·rw[if_neg c]at hd ⊢
  by_cases p:2147483648<=x<;>by_cases q:2147483648<=y<;>by_cases r:2147483648<=d<;>simp[p,q,r]<;>omega
end Go.AM.PL
namespace Go.AM.Lf
open PL
@[simp] theorem wB:zq (.int .u32)=(0:Int):=rfl
theorem Iu(l:List Int)(x:Int):nth (l++[x]) ((l++[x]).length-1:Int) 0=x:=by
 rw[V5 _ (by simp)]; simp[nth]
theorem xP(a:List Int)(h:zu a)(hl:a.length<=4000000000):(xp a).run=some (zO (nv a)):=by
 have key:(fx a).run=some (zO (nv a)):=by
  unfold fx
  refine kZ (λa=>zu a/\a.length<=4000000000) (λa=>a.length) (λa=>zO (nv a)) ?_ ⟨h,hl⟩
  rintro s ⟨h1,h2⟩
  rcases List.eq_nil_or_concat s with rfl | ⟨l,x,rfl⟩
  ·right; simp[bL,b4,qM]
  ·rw[List.concat_eq_append]at *
   have hx:=Iu l x
   have hlen:(l++[x]).length=l.length+1:=by simp
   have hw:zZ (((l++[x]).length:Int)-1)=((l++[x]).length:Int)-1:=zI (by omega) (by omega)
   have hIs:(b4 (l++[x])).run=some (x != 0):=by
    unfold b4
    rw[zd]
    ·simp only[hw,wB,hx,z7]
     congr 1
     have:(((l++[x]).length:Int)==0)=false:=by simp; omega
     rw[this]; rfl
    ·intro _; rw[hw]; exact⟨by omega,by omega⟩
   unfold bL
   rw[z6 hIs]
   by_cases sI:x=0
   ·left
    subst sI
    refine⟨l,?_,⟨(nk.1 h1).1,by omega⟩,by omega,by rw[tA]⟩
    have hc:vQ (e:=.int .u32) 0 (((l++[(0:Int)]).length:Int)-1) (l++[0])=l:=by
     unfold vQ; simp
    rw[hw,hc]
    simp only[bne_self_eq_false,Bool.not_false,zm]
    rw[c9 _ (by omega) (by omega) (by omega),z7]
   ·right
    have hb:(x != 0)=true:=by simpa using sI
    rw[hb]
    simp only[Bool.not_true,zh,z7]
    rw[pH h1]
    intro y hy
    simp at hy; omega
 unfold xp
 rw[z6 key,z7]
theorem Cv(a:List Int)(hl:a.length<=4000000000):(wG a).run=some a:=by
 unfold wG
 rw[zd]
 ·cases a with
  | nil=>simp
  | cons x a=>simp only[List.length_cons]at hl; simp(disch:=omega)
 ·rintro rfl r hr
  first
  | simpa[T.leads]using hr
  | (obtain⟨_,_,hr⟩:=hr; simpa[T.leads]using hr)
theorem cn(a:List Int)(h:zu a)(hl:a.length<=4000000000):(yb a).run=some (zO (nv a)):=by
 unfold yb
 rw[z6 (xP a h hl),z6 (Cv _ (Nat.le_trans (q7 h) hl)),z7]
theorem jV(n:Nat)(h:n<18446744073709551616):(jS (n:Int)).run=some (zO n):=by
 have e2:vv (vc .u64 (n:Int) 32)=((n / 4294967296:Nat):Int):=by rw[P5 (by omega),ic]; omega
 have e1:vv (n:Int)=((n % 4294967296:Nat):Int):=by rw[ic]; omega
 have h1:zu [((n % 4294967296:Nat):Int),((n / 4294967296:Nat):Int)]:=by
  intro x hx; simp only[List.mem_cons,List.not_mem_nil,or_false]at hx; rcases hx with rfl | rfl<;>omega
 have h2:=xP _ h1 (by simp)
 have h3:nv [((n % 4294967296:Nat):Int),((n / 4294967296:Nat):Int)]=n:=by simp only[bU,Kz]; omega
 unfold jS
 rw[kH _ (by omega),e1,e2,z6 h2,h3,z7]
theorem eT(a b:List Int)(ha:zu a)(hb:zu b)(la:a.length<=1000000000)(lb:b.length<=1000000000):(dw a b).run=some (Vb (nv a) (nv b)):=by
 unfold dw
 rw[z6 (xP a ha (by omega)),z6 (xP b hb (by omega))]
 have qa:=q7 ha
 have qb:=q7 hb
 generalize nv a=A at *
 generalize nv b=B at *
 by_cases hl:(zO A).length=(zO B).length
 ·rw[hl,bne_self_eq_false,zh]
  have key:=EI (r:=gY (zO A) (zO B)) (zO A) (zO B) (zy A) (zy B) hl (λi hi => ?_) ?_
  ·rw[<- hl,zI (by omega) (by omega)]
   unfold sX
   rw[z6 key,qf,qf]
   unfold Vb
   by_cases p:A<B
   ·simp[p]
   ·by_cases q:B<A<;>simp[p,q]
  ·have e:zZ ((i:Int)-1)=(i:Int)-1:=zI (by omega) (by omega)
   unfold gY
   have UY:i<(zO B).length:=by omega
   have x1:=uv (zy A) i
   have x2:=uv (zy B) i
   rcases Nat.lt_trichotomy (lm (zO A) i) (lm (zO B) i)with c | c | c
   ·have c2:¬ (lm (zO A) i=lm (zO B) i):=by omega
    simp(disch:=omega) [e,x1,x2,c,c2,hi,UY]<;>omega
   ·simp(disch:=omega) [e,x1,x2,c,hi,UY]
   ·have c2:¬ (lm (zO A) i=lm (zO B) i):=by omega
    have c3:¬ (lm (zO A) i<lm (zO B) i):=by omega
    simp(disch:=omega) [e,x1,x2,c,c2,c3,hi,UY]<;>omega
  ·simp[gY]
 ·rw[zc (by simp; omega)]
  unfold Vb
  by_cases c:(zO A).length<(zO B).length
  ·have:=p9 c
   simp[c,this]
  ·have h2:=p9 (show(zO B).length<(zO A).length by omega)
   have h3:¬ A<B:=by omega
   simp[c,h2,h3]
theorem Cw{c x y:Nat}(hc:c<=1)(hx:x<4294967296)(hy:y<4294967296):zS (zS ((c:Int)+x)+y)=((c+x+y:Nat):Int):=by
 rw[qK (x:=(c:Int)+x) (by omega) (by omega),qK (by omega) (by omega)]; omega
theorem UA(n:Nat):vv (n:Int)=((n % 4294967296:Nat):Int):=by rw[ic]; omega
theorem Qy(n:Nat):vc .u64 (n:Int) 32=((n / 4294967296:Nat):Int):=by rw[P5 (by omega)]; omega
theorem Ka{P X c a b p q:Nat}(h:X+c*P=a+b):X+P*((c+p+q) % 4294967296)+(c+p+q) / 4294967296*(P*4294967296)=(a+P*p)+(b+P*q):=by
 have e:(c+p+q)=(c+p+q) % 4294967296+4294967296*((c+p+q) / 4294967296):=by omega
 generalize (c+p+q) % 4294967296=lo at *
 generalize (c+p+q) / 4294967296=hi at *
 have e2:P*(c+p+q)=P*(lo+4294967296*hi):=by rw[e]
 simp only[Nat.mul_add]at e2
 rw[Nat.mul_comm c P]at h
 have e3:hi*(P*4294967296)=P*(4294967296*hi):=by rw[Nat.mul_comm hi,Nat.mul_assoc]
 omega
theorem Uf(a b:List Int)(ha:zu a)(hb:zu b)(la:a.length<=1000000000)(lb:b.length<=1000000000):(so a b).run=some (zO (nv a+nv b)):=by
 have qa:=q7 ha
 have qb:=q7 hb
 unfold so
 rw[z6 (xP a ha (by omega)),z6 (xP b hb (by omega))]
 generalize nv a=A at *
 generalize nv b=B at *
 obtain⟨x,y,hxy,lx,ly,le,hsw,z3R⟩:∃ x y:List Int,(nv x+nv y=A+B)/\zu x/\zu y/\(y.length<=x.length/\x.length<=1000000000) /\
   (bif decide (((zO A).length:Int)<((zO B).length:Int))then zO B else zO A)=x/\(bif decide (((zO A).length:Int)<((zO B).length:Int))then zO A else zO B)=y:=by
  by_cases c:(zO A).length<(zO B).length
  ·exact⟨zO B,zO A,by simp; omega,zy _,zy _,⟨by omega,by omega⟩,by simp[c],by simp[c]⟩
  ·exact⟨zO A,zO B,by simp,zy _,zy _,⟨by omega,by omega⟩,by simp[c],by simp[c]⟩
 rw[hsw,z3R]
 obtain⟨le1,le2⟩:=le
 have ew:zZ ((x.length:Int)+1)=((x.length+1:Nat):Int):=by rw[zI (by omega) (by omega)]; omega
 dsimp only; rw[ew]
 simp only[Int.toNat_natCast,List.length_replicate]
 have loop:∃ r:Int×List Int,(ZE x y x (x.length:Int) (0,0,List.replicate (x.length+1) 0)).run=some r/\∃ c:Nat,r.1=(c:Int)/\c<=1/\zu r.2/\r.2.length=x.length+1/\nv (r.2.take x.length)+c*4294967296 ^ x.length=nv x+nv y:=by
  refine T.xW (λs:Int×Int×List Int=>∃ (c i:Nat),s.1=(c:Int)/\s.2.1=(i:Int)/\c<=1/\i<=x.length/\zu s.2.2/\s.2.2.length=x.length+1/\nv (s.2.2.take i)+c*4294967296 ^ i=nv (x.take i)+nv (y.take i))
   (λs=>x.length-s.2.1.toNat) _ ?_ ⟨0,0,rfl,rfl,by omega,by omega,wy _,by simp,by simp⟩
  rintro⟨_,_,xs⟩ ⟨c,i,rfl,rfl,hc,hi,hl,hn,hv⟩
  simp only at hl hn hv ⊢
  by_cases qc:i<x.length
  ·left
   have hx:=uV lx i
   have hy:=uV ly i
   have z6g:(bif decide ((i:Int)<(y.length:Int))then zS (zS ((c:Int)+zS (lm x i:Int))+zS (nth y (i:Int) 0))else zS ((c:Int)+zS (lm x i:Int)))=((c+lm x i+lm y i:Nat):Int):=by
    rw[uv ly,qK (x:=(lm x i:Int)) (by omega) (by omega),qK (x:=(lm y i:Int)) (by omega) (by omega)]
    by_cases q:i<y.length
    ·rw[show decide ((i:Int)<(y.length:Int))=true by simpa using q,cond_true,Cw hc hx hy]
    ·rw[show decide ((i:Int)<(y.length:Int))=false by simpa using q,cond_false,PH (a:=y) (by omega),qK (by omega) (by omega)]; omega
   have ei:zZ ((i:Int)+1)=((i+1:Nat):Int):=by rw[zI (by omega) (by omega)]; omega
   refine⟨((((c+lm x i+lm y i) / 4294967296:Nat):Int),((i+1:Nat):Int),xs.set i (((c+lm x i+lm y i) % 4294967296:Nat):Int)),?_,⟨_,i+1,rfl,rfl,by omega,by omega,cB hl _ (by omega) (by omega),by simpa using hn,?_⟩,by simp; omega⟩
   ·unfold dz
    simp only[wB,uv lx,z6g,UA,Qy,ei]
    simp(disch:=omega) [qc,hn]
    rw[zd (λhq=>⟨by omega,by omega⟩)]
    simp(disch:=omega) [qc,hn]
   ·simp only
    rw[vU _ (by omega),zU,zU,Nat.pow_succ,Int.toNat_natCast]
    exact Ka hv
  ·right
   have X4:i=x.length:=by omega
   subst X4
   refine⟨((c:Int),xs),?_,c,rfl,hc,hl,hn,?_⟩
   ·unfold dz
    simp
   ·simpa[List.take_length,xr le1]using hv
 obtain⟨⟨_,xs⟩,hr,c,rfl,hc,hl,hn,hv⟩:=loop
 simp only at hl hn hv
 rw[T.run_mk _ (by omega) (by omega) (by omega) (by omega),zH _ rfl rfl rfl,zd rfl,z6 hr]
 simp only[Int.toNat_natCast,Nat.zero_add,List.drop_zero,UA]
 rw[qq _ (by omega) (by omega),jv _ rfl (by omega),zd rfl]
 have e1:(xs.set x.length ((c % 4294967296:Nat):Int)).take xs.length=xs.set x.length ((c % 4294967296:Nat):Int):=List.take_of_length_le (by simp)
 rw[e1]
 have h3:=xP (xs.set x.length ((c % 4294967296:Nat):Int)) (cB hl _ (by omega) (by omega)) (by simp; omega)
 rw[z6 h3,z7]
 have e2:=vU (a:=xs) (i:=x.length) ((c % 4294967296:Nat):Int) (by omega)
 rw[xr (by simp; omega)]at e2
 rw[e2,Int.toNat_natCast,Nat.mod_eq_of_lt (by omega),Nat.mul_comm,hv,hxy]
theorem i1(i:Nat)(h:i<=4000000000):zZ ((i:Int)+1)=((i+1:Nat):Int):=by rw[zI (by omega) (by omega)]; omega
theorem im1(i:Nat)(h:i<=4000000000):zZ (((i+1:Nat):Int)-1)=(i:Int):=by rw[zI (by omega) (by omega)]; omega
theorem iF{x y:Nat}(hx:x<4294967296)(hy:y<4294967296):x*y<=18446744065119617025:=Nat.mul_le_mul (show x<=4294967295 by omega) (show y<=4294967295 by omega)
theorem mac{c v w o:Nat}(hc:c<4294967296)(hv:v<4294967296)(hw:w<4294967296)(ho:o<4294967296) :
  zS ((c:Int)+zS (zS ((v:Int)*(w:Int))+(o:Int)))=((c+v*w+o:Nat):Int)/\c+v*w+o<18446744073709551616/\(c+v*w+o) / 4294967296<4294967296:=by
 have h:=iF hv hw
 have e:(v:Int)*(w:Int)=((v*w:Nat):Int):=by simp
 rw[e]
 generalize v*w=z at *
 rw[qK (x:=(z:Int)) (by omega) (by omega),qK (x:=(z:Int)+o) (by omega) (by omega),qK (by omega) (by omega)]
 omega
theorem Ef{P Q X Z c v w o W t:Nat}(h:X+c*P=Z+Q*(v*W))(hP:P=Q*t) :
  X+P*((c+v*w+o) % 4294967296)+(c+v*w+o) / 4294967296*(P*4294967296)=Z+P*o+Q*(v*(W+t*w)):=by
 have e:(c+v*w+o)=(c+v*w+o) % 4294967296+4294967296*((c+v*w+o) / 4294967296):=by omega
 generalize (c+v*w+o) % 4294967296=lo at *
 generalize (c+v*w+o) / 4294967296=hi at *
 have e2:P*(c+v*w+o)=P*(lo+4294967296*hi):=by rw[e]
 have e3:X+P*lo+hi*(P*4294967296)=X+P*(lo+4294967296*hi):=by grind
 rw[e3,<- e2]
 have e4:X+P*(c+v*w+o)=(X+c*P)+P*(v*w)+P*o:=by grind
 rw[e4,h,hP]
 grind
theorem jU(xs:List Int)(i:Nat)(x:Int)(j:Nat)(h:i≠j):lm (xs.set i x) j=lm xs j:=by
 by_cases hi:i<xs.length
 ·rw[oX hi,if_neg h]
 ·rw[List.set_eq_of_length_le (by omega)]
theorem Qf(b:List Int)(hb:zu b)(lb:b.length<=1000000000)(P:List Int)(hP:zu P)(i:Nat)(hi:i<=1000000000)(hPl:i+b.length<P.length)(v:Nat)(hv:v<4294967296)(x3:List Int)(x4:Int) :
  ∃ r:Int×List Int,(tS b (i:Int) (v:Int) x3 x4 (i:Int) b (b.length:Int) (0,0,P)).run=some r/\∃ c:Nat,r.1=(c:Int)/\c<4294967296/\zu r.2/\r.2.length=P.length /\
   nv (r.2.take (i+b.length))+c*4294967296 ^ (i+b.length)=nv (P.take (i+b.length))+4294967296 ^ i*(v*nv b):=by
 refine T.xW (λs:Int×Int×List Int=>∃ (c k:Nat),s.1=(c:Int)/\s.2.1=(k:Int)/\c<4294967296/\k<=b.length/\zu s.2.2/\s.2.2.length=P.length/\(∀ j,i+k<=j->lm s.2.2 j=lm P j) /\
   nv (s.2.2.take (i+k))+c*4294967296 ^ (i+k)=nv (P.take (i+k))+4294967296 ^ i*(v*nv (b.take k)))
  (λs=>b.length-s.2.1.toNat) _ ?_ ⟨0,0,rfl,rfl,by omega,by omega,hP,rfl,λ_ _=>rfl,by simp⟩
 rintro⟨_,_,xs⟩ ⟨c,k,rfl,rfl,hc,hk,hl,hn,hj,QZ⟩
 simp only at hl hn hj QZ ⊢
 by_cases qc:k<b.length
 ·left
  have hw:=uV hb k
  have ho:=uV hl (i+k)
  obtain⟨m1,m2,m3⟩:=mac hc hv hw ho
  have eik:zZ ((i:Int)+(k:Int))=((i+k:Nat):Int):=by rw[zI (by omega) (by omega)]; omega
  refine⟨((((c+v*lm b k+lm xs (i+k)) / 4294967296:Nat):Int),((k+1:Nat):Int),xs.set (i+k) (((c+v*lm b k+lm xs (i+k)) % 4294967296:Nat):Int)),?_,⟨_,k+1,rfl,rfl,m3,by omega,cB hl _ (by omega) (by omega),by simpa using hn,λj h=>by simp only; rw[jU _ _ _ _ (by omega),hj j (by omega)],?_⟩,by simp; omega⟩
  ·unfold dv
   have ev:zS (v:Int)=v:=qK (by omega) (by omega)
   have ew:zS (lm b k:Int)=lm b k:=qK (by omega) (by omega)
   have eo:zS (lm xs (i+k):Int)=lm xs (i+k):=qK (by omega) (by omega)
   simp only[wB,eik,Int.toNat_natCast,Nat.zero_add,uv hb,yC hl,ev,ew,eo,m1,UA,Qy,i1 k (by omega)]
   simp(disch:=omega) [qc,hn]
  ·simp only
   rw[show i+(k+1)=(i+k)+1 by omega,vU _ (by omega),zU,zU,Nat.pow_succ,Int.toNat_natCast,<- hj (i+k) (by omega)]
   exact Ef QZ (Nat.pow_add _ _ _)
 ·right
  have:k=b.length:=by omega
  subst this
  refine⟨((c:Int),xs),?_,c,rfl,hc,hl,hn,?_⟩
  ·unfold dv
   simp
  ·simpa[List.take_length]using QZ
theorem row_step{T V c P A Bn Q a:Nat}(h:V+c*P=T+Q*(a*Bn))(hT:T=A*Bn):V+P*c=(A+Q*a)*Bn:=by
 have:V+P*c=V+c*P:=by rw[Nat.mul_comm]
 rw[this,h,hT]; grind
theorem fM(a b:List Int)(ha:zu a)(hb:zu b)(la:a.length<=1000000000)(lb:b.length<=1000000000):(iO a b).run=some (zO (nv a*nv b)):=by
 have qa:=q7 ha
 have qb:=q7 hb
 unfold iO
 rw[z6 (xP a ha (by omega)),z6 (xP b hb (by omega))]
 generalize nv a=A at *
 generalize nv b=B at *
 have hx:=zy A
 have hy:=zy B
 have hxn:=qf A
 have hyn:=qf B
 generalize zO A=x at *
 generalize zO B=y at *
 have ew:zZ ((x.length:Int)+(y.length:Int))=((x.length+y.length:Nat):Int):=by rw[zI (by omega) (by omega)]; omega
 rw[ew]
 simp only[Int.toNat_natCast,List.length_replicate]
 have loop:∃ r:List Int,(sT y x (x.length:Int) (0,List.replicate (x.length+y.length) 0)).run=some r/\zu r/\r.length=x.length+y.length/\nv r=A*B:=by
  refine T.xW (λs:Int×List Int=>∃ i:Nat,s.1=(i:Int)/\i<=x.length/\zu s.2/\s.2.length=x.length+y.length/\nv (s.2.take (i+y.length))=nv (x.take i)*B)
   (λs=>x.length-s.1.toNat) _ ?_ ⟨0,rfl,by omega,wy _,by simp,by simp[List.take_replicate]⟩
  rintro⟨_,xs⟩ ⟨i,rfl,hi,hl,hn,hv⟩
  simp only at hl hn hv ⊢
  by_cases qc:i<x.length
  ·left
   have U7:=uV hx i
   obtain⟨⟨_,ys⟩,hr,c,rfl,hc,dF,VL,QZ⟩:=Qf y hy (by omega) xs hl i (by omega) (by omega) (lm x i) U7 x (x.length:Int)
   simp only at dF VL QZ
   have eik:zZ ((i:Int)+(y.length:Int))=((i+y.length:Nat):Int):=by rw[zI (by omega) (by omega)]; omega
   refine⟨(((i+1:Nat):Int),ys.set (i+y.length) (c:Int)),?_,⟨i+1,rfl,by omega,cB dF _ (by omega) (by omega),by simp; omega,?_⟩,by simp; omega⟩
   ·unfold dA
    have ec:vv (c:Int)=c:=Vk (by omega) (by omega)
    simp only[nq,wB,uv hx,eik,Int.toNat_natCast,Nat.zero_add,ec,i1 i (by omega)]
    rw[if_pos (by simpa using qc),qq _ (by omega) (by omega),zH _ rfl rfl rfl,zd rfl,z6 hr]
    simp(disch:=omega) [VL]
   ·simp only
    rw[show i+1+y.length=(i+y.length)+1 by omega,vU _ (by omega),zU,Int.toNat_natCast]
    rw[hyn]at QZ
    exact row_step QZ hv
  ·right
   have:i=x.length:=by omega
   subst this
   refine⟨xs,?_,hl,hn,?_⟩
   ·unfold dA
    simp
   ·rw[xr (by omega),List.take_length,hxn]at hv; exact hv
 obtain⟨xs,hr,hl,hn,hv⟩:=loop
 rw[T.run_mk _ (by omega) (by omega) (by omega) (by omega),zH _ rfl rfl rfl,zd rfl,z6 hr]
 simp only[Nat.zero_add,List.drop_zero,List.take_length]
 rw[zd rfl,z6 (xP xs hl (by omega)),z7,hv]
theorem sr{a:List Int}{i:Nat}(h:i<a.length):nv (a.drop i)=lm a i+4294967296*nv (a.drop (i+1)):=UF h
theorem set_drop{a:List Int}{i:Nat}(x:Int)(h:i<a.length):nv ((a.set i x).drop i)=x.toNat+4294967296*nv (a.drop (i+1)):=by
 rw[sr (by simpa using h),uh,oX h,if_pos rfl]
theorem BC{hi lo y:Nat}(h0:hi<y)(h1:lo<4294967296)(h2:y<4294967296) :
  (jK (hi:Int) (lo:Int) (y:Int)).run=some ((((hi*4294967296+lo) / y:Nat):Int),(((hi*4294967296+lo) % y:Nat):Int)):=by
 have e1:=IW (x:=(hi:Int)) (y:=(lo:Int)) (by omega) (by omega) (by omega) (by omega)
 have ey:zS (y:Int)=y:=qK (by omega) (by omega)
 have eh:zS (hi:Int)=hi:=qK (by omega) (by omega)
 have el:zS (lo:Int)=lo:=qK (by omega) (by omega)
 have hq:(hi*4294967296+lo) / y<4294967296:=by
  rw[Nat.div_lt_iff_lt_mul (by omega)]
  have:=Nat.mul_le_mul_left 4294967296 (show hi+1<=y from h0)
  omega
 have hr:(hi*4294967296+lo) % y<y:=Nat.mod_lt _ (by omega)
 have e2:(hi:Int)*4294967296+(lo:Int)=((hi*4294967296+lo:Nat):Int):=by omega
 have e3:Int.tdiv ((hi*4294967296+lo:Nat):Int) (y:Int)=(((hi*4294967296+lo) / y:Nat):Int):=by rw[fY (by omega)]; rfl
 have e4:Int.tmod ((hi*4294967296+lo:Nat):Int) (y:Int)=(((hi*4294967296+lo) % y:Nat):Int):=by rw[eP (by omega)]; rfl
 unfold jK
 rw[za (by simp; omega)]
 simp only[ey,eh,el,e1,e2,e3,e4]
 rw[kH _ (by omega),c6 _ (by omega),c6 _ (by omega),z7,yl (by omega),r7 hq,r7 (by omega)]
theorem KX{A Q r y l q:Nat}(h:A=Q*y+r)(hq:q=(r*4294967296+l) / y):l+4294967296*A=(q+4294967296*Q)*y+(r*4294967296+l) % y:=by
 have:=Nat.div_add_mod (r*4294967296+l) y
 rw[<- hq]at this
 generalize (r*4294967296+l) % y=m at *
 rw[h]
 have e:(q+4294967296*Q)*y+m=(y*q+m)+4294967296*(Q*y):=by grind
 rw[e,this]; omega
theorem lY(a:List Int)(ha:zu a)(la:a.length<=1000000000)(y:Nat)(h0:0<y)(h1:y<4294967296):(gP a (y:Int)).run=some (zO (nv a / y),((nv a % y:Nat):Int)):=by
 have loop:∃ r:Int×List Int,(nU a (y:Int) (0,(a.length:Int)-1,List.replicate a.length 0)).run=some r/\∃ m:Nat,r.1=(m:Int)/\m<y/\zu r.2/\r.2.length=a.length/\nv a=nv r.2*y+m:=by
  refine T.xW (λs:Int×Int×List Int=>∃ (m i:Nat),s.1=(m:Int)/\s.2.1=(i:Int)-1/\m<y/\i<=a.length/\zu s.2.2/\s.2.2.length=a.length/\nv (a.drop i)=nv (s.2.2.drop i)*y+m)
   (λs=>(s.2.1+1).toNat) _ ?_ ⟨0,a.length,rfl,rfl,h0,Nat.le_refl _,wy _,by simp,by simp⟩
  rintro⟨_,_,xs⟩ ⟨m,i,rfl,rfl,hm,hi,hl,hn,hv⟩
  simp only at hl hn hv ⊢
  cases i with
  | zero =>
   right
   refine⟨((m:Int),xs),?_,m,rfl,hm,hl,hn,by simpa using hv⟩
   unfold gF
   simp
  | succ i =>
   left
   have hx:=uV ha i
   have e1:((i+1:Nat):Int)-1=(i:Int):=by omega
   have hd:=BC hm hx h1
   have hq:(m*4294967296+lm a i) / y<4294967296:=by
    rw[Nat.div_lt_iff_lt_mul (by omega)]
    have:=Nat.mul_le_mul_left 4294967296 (show m+1<=y from hm)
    omega
   have ei:zZ ((i:Int)-1)=(i:Int)-1:=zI (by omega) (by omega)
   refine⟨((((m*4294967296+lm a i) % y:Nat):Int),(i:Int)-1,xs.set i (((m*4294967296+lm a i) / y:Nat):Int)),?_,⟨_,i,rfl,rfl,Nat.mod_lt _ h0,by omega,xX hl _ hq,by simpa using hn,?_⟩,by simp⟩
   ·unfold gF
    simp only[e1,wB,uv ha,nq,ei]
    rw[if_pos (by simp),qq _ (by omega) (by omega),z6 hd]
    simp(disch:=omega) [hn]
   ·simp only
    rw[sr (by omega),set_drop _ (by omega),Int.toNat_natCast]
    exact KX hv rfl
 obtain⟨⟨_,xs⟩,hr,m,rfl,hm,hl,hn,hv⟩:=loop
 simp only at hl hn hv
 unfold gP
 rw[zI (by omega) (by omega)]
 simp only[Int.toNat_natCast,List.length_replicate]
 rw[T.run_mk _ (by omega) (by omega) (by omega) (by omega),zH _ rfl rfl rfl,zd rfl,z6 hr]
 simp only[Nat.zero_add,List.drop_zero,List.take_length]
 have e1:nv a / y=nv xs:=by rw[hv,Nat.mul_comm,Nat.mul_add_div h0,Nat.div_eq_of_lt hm,Nat.add_zero]
 have e2:nv a % y=m:=by rw[hv,Nat.mul_comm,Nat.mul_add_mod,Nat.mod_eq_of_lt hm]
 rw[zd rfl,z6 (xP xs hl (by omega)),z7,e1,e2]
theorem Yt{v s:Nat}(hv:v<4294967296)(hs:s<=32):cO .u64 (v:Int) (s:Int)=((v*2 ^ s:Nat):Int):=by
 have h1:2 ^ s<=2 ^ 32:=Nat.pow_le_pow_right (by omega) hs
 have h2:v*2 ^ s<=4294967295*4294967296:=Nat.mul_le_mul (by omega) h1
 have e:min (s:Int).toNat 64=s:=by simp; omega
 show zS ((v:Int)*2 ^ (min (s:Int).toNat 64))=_
 rw[e]
 have e2:(v:Int)*2 ^ s=((v*2 ^ s:Nat):Int):=by simp
 rw[e2,yl (by omega)]
theorem R0{v s:Nat}(hs:s<=64):vc .u64 (v:Int) (s:Int)=((v / 2 ^ s:Nat):Int):=by
 have e:min (s:Int).toNat 64=s:=by simp; omega
 show Int.fdiv (v:Int) (2 ^ (min (s:Int).toNat 64))=_
 rw[e]
 have e2:(2:Int) ^ s=((2 ^ s:Nat):Int):=by simp
 rw[e2,Int.fdiv_eq_ediv_of_nonneg _ (Int.natCast_nonneg _)]; rfl
theorem RW{h m s:Nat}(hh:h<2 ^ s):h ||| m*2 ^ s=h+m*2 ^ s:=by rw[Nat.or_comm,Ys m h s hh,Nat.add_comm]
theorem Ul(v s:Nat)(hs:s<=32):v*2 ^ s % 4294967296=(v % 2 ^ (32-s))*2 ^ s:=by
 have e:(4294967296:Nat)=2 ^ (32-s)*2 ^ s:=by rw[<- Nat.pow_add]; rw[show 32-s+s=32 by omega]
 rw[e,Nat.mul_mod_mul_right]
theorem Bx{h v s:Nat}(hh:h<2 ^ s)(hv:v<4294967296)(hs:s<32) :
  QI .u32 (h:Int) (vv ((v*2 ^ s:Nat):Int))=((h+v*2 ^ s % 4294967296:Nat):Int)/\h+v*2 ^ s % 4294967296<4294967296/\v*2 ^ s / 4294967296<2 ^ s:=by
 have h1:2 ^ s<=2 ^ 31:=Nat.pow_le_pow_right (by omega) (by omega)
 have e1:=Ul v s (by omega)
 have e2:(v % 2 ^ (32-s))*2 ^ s+2 ^ s<=4294967296:=by
  have:v % 2 ^ (32-s)+1<=2 ^ (32-s):=Nat.mod_lt _ (Nat.pow_pos (by omega))
  have:=Nat.mul_le_mul_right (2 ^ s) this
  rw[<- Nat.pow_add,show 32-s+s=32 by omega]at this
  rw[Nat.add_mul]at this
  omega
 refine⟨?_,by rw[e1]; omega,?_⟩
 ·rw[UA,sn (by omega) (by omega),e1,RW hh]
 ·rw[Nat.div_lt_iff_lt_mul (by omega),Nat.mul_comm]
  exact Nat.mul_lt_mul_of_pos_left hv (Nat.pow_pos (by omega))
theorem J6{X h P V v t A:Nat}(hv:X+h*P=V*t)(hA:A=v*t):X+P*(h+A % 4294967296)+A / 4294967296*(P*4294967296)=(V+P*v)*t:=by
 have e:A=A % 4294967296+4294967296*(A / 4294967296):=by omega
 generalize A % 4294967296=lo at *
 generalize A / 4294967296=hi at *
 have e2:X+P*(h+lo)+hi*(P*4294967296)=(X+h*P)+P*(lo+4294967296*hi):=by grind
 rw[e2,hv,<- e,hA]; grind
theorem XX(a:List Int)(ha:zu a)(la:a.length<=1000000000)(s n:Nat)(hs:s<32)(J5:a.length<=n)(VL:n<=a.length+1)(tF:nv a*2 ^ s<4294967296 ^ n) :
  ∃ r,(rC (s:Int) (n:Int) a (a.length:Int) (0,List.replicate n 0)).run=some r/\zu r/\r.length=n/\nv r=nv a*2 ^ s:=by
 refine T.xW (λz:Int×List Int=>∃ i h:Nat,z.1=(i:Int)/\i<=a.length/\zu z.2/\z.2.length=n/\h<2 ^ s/\(i<n->lm z.2 i=h)/\nv (z.2.take i)+h*4294967296 ^ i=nv (a.take i)*2 ^ s)
  (λz=>a.length-z.1.toNat) _ ?_ ⟨0,0,rfl,by omega,wy _,by simp,Nat.pow_pos (by omega),λ_ => ?_,by simp⟩
 ·rintro⟨_,xs⟩ ⟨i,h,rfl,hi,hl,hn,hh,hli,hv⟩
  simp only at hl hn hli hv ⊢
  by_cases qc:i<a.length
  ·left
   have hx:=uV ha i
   obtain⟨s1,s2,s3⟩:=Bx hh hx hs
   have hb:zS (lm a i:Int)=lm a i:=yl (by omega)
   have Lt:=hli (by omega)
   have hp:2 ^ s<=2 ^ 31:=Nat.pow_le_pow_right (by omega) (by omega)
   have e2:vv ((lm a i*2 ^ s / 4294967296:Nat):Int)=((lm a i*2 ^ s / 4294967296:Nat):Int):=r7 (by omega)
   by_cases tb:i+1<n
   all_goals have TW:((i:Int)+1<(n:Int))↔(i+1<n):=by omega
   ·refine⟨(((i+1:Nat):Int),(xs.set i ((h+lm a i*2 ^ s % 4294967296:Nat):Int)).set (i+1) ((lm a i*2 ^ s / 4294967296:Nat):Int)),?_,
     ⟨i+1,lm a i*2 ^ s / 4294967296,rfl,by omega,xX (xX hl _ s2) _ (by omega),by simpa using hn,s3,λ_ => ?_,?_⟩,by simp; omega⟩
    ·unfold yP
     simp only[wB,uv ha,Int.toNat_natCast,Nat.zero_add,yC hl,hb,Yt hx (show s<=32 by omega),Lt,s1,i1 i (by omega),Qy,e2]
     simp(disch:=omega) [qc,hn,tb,TW]
    ·simp only
     rw[oX (by simp; omega),if_pos rfl,Int.toNat_natCast]
    ·simp only
     rw[pO _ _ _ _ (Nat.le_refl _),vU _ (by omega),zU,Int.toNat_natCast,Nat.pow_succ]
     exact J6 hv rfl
   ·refine⟨(((i+1:Nat):Int),xs.set i ((h+lm a i*2 ^ s % 4294967296:Nat):Int)),?_,
     ⟨i+1,lm a i*2 ^ s / 4294967296,rfl,by omega,xX hl _ s2,by simpa using hn,s3,λ_=>by omega,?_⟩,by simp; omega⟩
    ·unfold yP
     simp only[wB,uv ha,Int.toNat_natCast,Nat.zero_add,yC hl,hb,Yt hx (show s<=32 by omega),Lt,s1,i1 i (by omega),Qy,e2]
     simp(disch:=omega) [qc,hn,tb,TW]
    ·simp only
     rw[vU _ (by omega),zU,Int.toNat_natCast,Nat.pow_succ]
     exact J6 hv rfl
  ·right
   have:i=a.length:=by omega
   subst this
   refine⟨xs,?_,hl,hn,?_⟩
   ·unfold yP
    simp
   ·rw[List.take_length]at hv
    by_cases q:n=a.length
    ·rw[xr (by omega)]at hv
     rcases Nat.eq_zero_or_pos h with z | z
     ·subst z; omega
     ·have:=Nat.mul_le_mul_right (4294967296 ^ a.length) z
      rw[q]at tF; omega
    ·have vP:n=a.length+1:=by omega
     have:=zU xs a.length
     rw[xr (by omega),hli (by omega),Nat.mul_comm]at this
     omega
 ·show lm (List.replicate n 0) 0=0
  unfold lm nth
  cases n<;>simp[List.replicate_succ]
theorem Wa(a:List Int)(ha:zu a)(la:a.length<=1000000000)(s n:Nat)(hs:s<32)(J5:a.length<=n)(VL:n<=a.length+1)(tF:nv a*2 ^ s<4294967296 ^ n) :
  ∃ r,(nT a (s:Int) (n:Int)).run=some r/\zu r/\r.length=n/\nv r=nv a*2 ^ s:=by
 obtain⟨r,h1,h2,h3,h4⟩:=XX a ha la s n hs J5 VL tF
 refine⟨r,?_,h2,h3,h4⟩
 unfold nT
 simp only[Int.toNat_natCast,List.length_replicate]
 rw[T.run_mk _ (by omega) (by omega) (by omega) (by omega),zH _ rfl rfl rfl,zd rfl,z6 h1]
 simp
theorem fm(a:List Int)(ha:zu a)(la:a.length<=1000000000)(s n:Nat)(hs:s<32)(J5:a.length<=n)(VL:n<=a.length+1)(tF:nv a*2 ^ s<4294967296 ^ n) :
  ∃ r,(bz a (s:Int) (n:Int)).run=some r/\zu r/\r.length=n/\nv r=nv a*2 ^ s:=by
 obtain⟨r,h1,h2,h3,h4⟩:=XX a ha la s n hs J5 VL tF
 refine⟨r,?_,h2,h3,h4⟩
 have rX:(lK (s:Int) (n:Int) a (a.length:Int) (0,List.replicate n 0)).run=some r:=h1
 unfold bz
 simp only[Int.toNat_natCast,List.length_replicate]
 rw[T.run_mk _ (by omega) (by omega) (by omega) (by omega),zH _ rfl rfl rfl,zd rfl,z6 rX]
 simp
theorem TS{a b s:Nat}(hs:s<=32)(ha:a<2 ^ (32-s)):a ||| b*2 ^ (32-s)=a+b*2 ^ (32-s):=by rw[Nat.or_comm,Ys b a (32-s) ha,Nat.add_comm]
theorem k8(s:Nat)(h:s<=32):(4294967296:Nat)=2 ^ (32-s)*2 ^ s:=by rw[<- Nat.pow_add,show 32-s+s=32 by omega]
theorem z0U{v s:Nat}(hs:s<=32):v*4294967296 / 2 ^ s=v*2 ^ (32-s):=by
 rw[k8 s hs,<- Nat.mul_assoc,Nat.mul_div_cancel _ (Nat.pow_pos (by omega))]
theorem Sq{v s:Nat}(hs:s<=32):v*2 ^ (32-s) / 4294967296=v / 2 ^ s:=by
 rw[k8 s hs,Nat.mul_comm v,Nat.mul_div_mul_left _ _ (Nat.pow_pos (by omega))]
theorem S0{v s:Nat}(hs:s<=32):v*2 ^ (32-s) % 4294967296=(v % 2 ^ s)*2 ^ (32-s):=by
 rw[k8 s hs,Nat.mul_comm (2 ^ (32-s)),Nat.mul_mod_mul_right]
theorem NO{V v P s C:Nat}(hs:s<=32)(hC:C=V / 2 ^ s):C+P*((v % 2 ^ s)*2 ^ (32-s))+P*4294967296*(v / 2 ^ s)=(V+P*4294967296*v) / 2 ^ s:=by
 have hp:0<2 ^ s:=Nat.pow_pos (by omega)
 have e1:V+P*4294967296*v=V+(P*2 ^ (32-s)*v)*2 ^ s:=by
  have:P*4294967296*v=P*(2 ^ (32-s)*2 ^ s)*v:=by rw[<- k8 s hs]
  rw[this]; grind
 rw[e1,Nat.add_mul_div_right _ _ hp,hC]
 have e2:v=v % 2 ^ s+2 ^ s*(v / 2 ^ s):=by have:=Nat.div_add_mod v (2 ^ s); omega
 have e3:P*4294967296*(v / 2 ^ s)=P*(2 ^ (32-s)*2 ^ s)*(v / 2 ^ s):=by rw[<- k8 s hs]
 rw[e3]
 have e4:P*2 ^ (32-s)*v=P*2 ^ (32-s)*(v % 2 ^ s+2 ^ s*(v / 2 ^ s)):=by rw[<- e2]
 rw[e4]
 generalize v % 2 ^ s=lo
 generalize v / 2 ^ s=hi
 grind
theorem Lb(x:List Int)(hx:zu x)(lx:x.length<=4000000000)(s:Nat)(hs:s<32) :
  ∃ r,(nX (s:Int) x (x.length:Int) (0,List.replicate x.length 0)).run=some r/\zu r/\r.length=x.length/\nv r=nv x / 2 ^ s:=by
 refine T.xW (λz:Int×List Int=>∃ i:Nat,z.1=(i:Int)/\i<=x.length/\zu z.2/\z.2.length=x.length/\(∀ j,i<=j->lm z.2 j=0)/\(∀ j,i=j+1->lm z.2 j=lm x j / 2 ^ s)/\nv (z.2.take i)=nv (x.take i) / 2 ^ s)
  (λz=>x.length-z.1.toNat) _ ?_ ⟨0,rfl,by omega,wy _,by simp,λj _ => ?_,λj h=>by omega,by simp⟩
 ·rintro⟨_,xs⟩ ⟨i,rfl,hi,hl,hn,hz,hp,hv⟩
  simp only at hl hn hz hp hv ⊢
  by_cases qc:i<x.length
  ·left
   have U7:=uV hx i
   have hb:zS (lm x i:Int)=lm x i:=yl (by omega)
   have SH:(32:Int)=((32:Nat):Int):=rfl
   have w1:vc .u64 (cO .u64 (lm x i:Int) 32) (s:Int)=((lm x i*2 ^ (32-s):Nat):Int):=by
    rw[SH,Yt U7 (by omega),R0 (by omega),<- z0U (by omega)]
   have hq:lm x i / 2 ^ s<4294967296:=Nat.lt_of_le_of_lt (Nat.div_le_self _ _) U7
   have w2:vv (vc .u64 ((lm x i*2 ^ (32-s):Nat):Int) 32)=((lm x i / 2 ^ s:Nat):Int):=by rw[Qy,Sq (by omega),r7 hq]
   have w3:QI .u32 (kR xs i 0) ((lm x i / 2 ^ s:Nat):Int)=((lm x i / 2 ^ s:Nat):Int):=by
    rw[yC hl,hz i (Nat.le_refl _),sn (by omega) hq,Nat.zero_or]
   cases i with
   | zero =>
    refine⟨(1,xs.set 0 ((lm x 0 / 2 ^ s:Nat):Int)),?_,⟨1,rfl,by omega,xX hl _ hq,by simpa using hn,λj h => ?_,λj h => ?_,?_⟩,by simp; omega⟩
    ·have w3':=w3
     simp only[Int.natCast_zero]at *
     have sI:nth x 0 0=(lm x 0:Int):=uv hx 0
     unfold kP
     simp only[wB,sI,Int.toNat_natCast,Nat.zero_add,hb,w1,w2,w3]
     have z4w:QI .u32 (kR xs (Int.toNat 0) 0) ((lm x 0 / 2 ^ s:Nat):Int)=((lm x 0 / 2 ^ s:Nat):Int):=w3
     generalize lm x 0 / 2 ^ s=q at *
     simp only[z4w]
     simp(disch:=omega) [qc,hn]
    ·rw[jU _ _ _ _ (by omega)]; exact hz j (by omega)
    ·have:j=0:=by omega
     subst this
     rw[oX (by omega),if_pos rfl,Int.toNat_natCast]
    ·simp only
     rw[vU _ (by omega),zU]; simp only[Int.toNat_natCast,List.take_zero,Kz,Nat.pow_zero,Nat.one_mul,Nat.zero_add]
   | succ i =>
    have VK:=hp i rfl
    have z5O:=uV hx i
    have hq2:lm xs i<2 ^ (32-s):=by
     rw[VK,Nat.div_lt_iff_lt_mul (Nat.pow_pos (by omega)),<- k8 s (by omega)]; exact z5O
    have TX:lm x (i+1)*2 ^ (32-s) % 4294967296=(lm x (i+1) % 2 ^ s)*2 ^ (32-s):=S0 (by omega)
    have hq4:lm xs i+(lm x (i+1) % 2 ^ s)*2 ^ (32-s)<4294967296:=by
     have h1:lm x (i+1) % 2 ^ s+1<=2 ^ s:=Nat.mod_lt _ (Nat.pow_pos (by omega))
     have h2:=Nat.mul_le_mul_right (2 ^ (32-s)) h1
     rw[Nat.mul_comm (2 ^ s),<- k8 s (by omega),Nat.add_mul]at h2
     omega
    have hxi:=uV hl i
    have w4:∀ ys:List Int,zu ys->lm ys i=lm xs i->QI .u32 (kR ys i 0) (vv ((lm x (i+1)*2 ^ (32-s):Nat):Int))=((lm xs i+(lm x (i+1) % 2 ^ s)*2 ^ (32-s):Nat):Int):=by
     intro ys Rq he
     rw[yC Rq,he,UA,sn hxi (Nat.mod_lt _ (by omega)),TX,TS (by omega) hq2]
    have w5:=w4 _ (xX hl (i+1) hq) (jU _ _ _ _ (by omega))
    refine⟨(((i+1+1:Nat):Int),(xs.set (i+1) ((lm x (i+1) / 2 ^ s:Nat):Int)).set i ((lm xs i+(lm x (i+1) % 2 ^ s)*2 ^ (32-s):Nat):Int)),?_,
     ⟨i+1+1,rfl,by omega,xX (xX hl _ hq) _ hq4,by simpa using hn,λj h => ?_,λj h => ?_,?_⟩,by simp; omega⟩
    ·unfold kP
     simp only[wB,uv hx,Int.toNat_natCast,Nat.zero_add,hb,w1,w2,w3,i1 (i+1) (by omega),im1 i (by omega),w5]
     rw[zc (by simp; omega)]
     have oa:decide ((0:Int)<((i+1:Nat):Int))=true:=by simp
     generalize hG:(xs.set (i+1) ((lm x (i+1) / 2 ^ s:Nat):Int)).set i ((lm xs i+(lm x (i+1) % 2 ^ s)*2 ^ (32-s):Nat):Int)=G
     have hGl:G.length=xs.length:=by rw[<- hG]; simp
     rw[qq _ (by omega) (by omega),kH _ (by omega),kH _ (by omega),qq _ (by omega) (by omega),jv _ rfl (by omega),kH _ (by omega),qq _ (by omega) (by omega),jv _ rfl (by omega),zc oa,
      qq _ (by omega) (by omega),jv _ (by simp) (by simp; omega),qq _ (by omega) (by omega),jv _ (by simp) (by simp; omega),zH _ (by omega) rfl (by omega),wZ _ (by omega),z7]
    ·rw[jU _ _ _ _ (by omega),jU _ _ _ _ (by omega)]; exact hz j (by omega)
    ·have:j=i+1:=by omega
     subst this
     rw[jU _ _ _ _ (by omega),oX (by omega),if_pos rfl,Int.toNat_natCast]
    ·simp only
     rw[zU,jU _ _ _ _ (by omega),oX (by omega),if_pos rfl,Int.toNat_natCast,vU _ (by simp; omega),pO _ _ _ _ (by omega),Int.toNat_natCast,zU,Nat.pow_succ]
     have QZ:=hv
     rw[zU]at QZ
     have e:nv (xs.take i)+4294967296 ^ i*(lm xs i+lm x (i+1) % 2 ^ s*2 ^ (32-s))=(nv (xs.take i)+4294967296 ^ i*lm xs i)+4294967296 ^ i*(lm x (i+1) % 2 ^ s*2 ^ (32-s)):=by rw[Nat.mul_add]; omega
     rw[e]
     exact NO (by omega) QZ
  ·right
   have:i=x.length:=by omega
   subst this
   refine⟨xs,?_,hl,hn,?_⟩
   ·unfold kP
    simp
   ·rw[List.take_length,xr (by omega)]at hv; exact hv
 ·show lm (List.replicate x.length 0) j=0
  unfold lm nth
  simp[List.getD_eq_getElem?_getD,List.getElem?_replicate]
  split<;>simp
theorem MK{A k:Nat}(h:(zO A).length<=k):A<4294967296 ^ k:=zM.1 h
theorem Ei(k:Nat):(4294967296:Nat) ^ (k / 32)*2 ^ (k % 32)=2 ^ k:=by
 have:(4294967296:Nat)=2 ^ 32:=by decide
 rw[this,<- Nat.pow_mul,<- Nat.pow_add]; congr 1; omega
theorem QD(a:List Int)(ha:zu a)(la:a.length<=1000000000)(k:Nat)(hk:k<=4096)(h0:0<k):(yn a (-(k:Int))).run=some (zO (nv a / 2 ^ k)):=by
 have qa:=q7 ha
 unfold yn
 rw[z6 (xP a ha (by omega))]
 generalize nv a=A at *
 have e1:YV (pz (-(k:Int)) (-4096)) 4096 = -(k:Int):=by unfold YV pz; repeat' split<;>omega
 have e2:zZ (0 - -(k:Int))=(k:Int):=by rw[zI (by omega) (by omega)]; omega
 have e3:zZ (Int.tdiv (k:Int) 32)=((k / 32:Nat):Int):=by rw[fY (by omega),zI (by omega) (by omega)]; omega
 have e4:zS (Int.tmod (k:Int) 32)=((k % 32:Nat):Int):=by rw[eP (by omega),qK (by omega) (by omega)]; omega
 simp only[e1,e2,e3,e4]
 rw[zc (by simp; omega),c6 _ (by omega)]
 have hx:=zy A
 by_cases c:(zO A).length<=k / 32
 ·rw[zc (by simp; omega),z7]
  have h1:=MK c
  have h2:=Ei k
  have h3:4294967296 ^ (k / 32)<=2 ^ k:=by rw[<- h2]; exact Nat.le_mul_of_pos_right _ (Nat.pow_pos (by omega))
  rw[Nat.div_eq_of_lt (by omega),qM]
 ·rw[za (by simp; omega),c6 _ (by omega)]
  have e5:zZ (((zO A).length:Int)-((k / 32:Nat):Int))=(((zO A).length-k / 32:Nat):Int):=by rw[zI (by omega) (by omega)]; omega
  have e6:vQ (e:=.int .u32) ((k / 32:Nat):Int) ((zO A).length:Int) (zO A)=(zO A).drop (k / 32):=by unfold vQ; simp only[Int.toNat_natCast,List.take_length]
  obtain⟨r,g1,g2,g3,g4⟩:=Lb ((zO A).drop (k / 32)) (br hx _) (by simp; omega) (k % 32) (Nat.mod_lt _ (by omega))
  have hlen:((zO A).drop (k / 32)).length=(zO A).length-k / 32:=List.length_drop
  rw[hlen]at g1
  simp only[e5,e6,Int.toNat_natCast,List.length_replicate,hlen]
  rw[T.run_mk _ (by omega) (by omega) (by omega) (by omega),c9 _ (by omega) (by omega) (by omega),zH _ rfl rfl rfl,zd rfl,z6 g1]
  simp only[Nat.zero_add,List.drop_zero,List.take_length]
  rw[zd rfl,z6 (xP r g2 (by omega)),z7,g4]
  have h1:=yL (zO A) (k / 32) (by omega)
  rw[qf]at h1
  have h2:=vZ hx (k / 32)
  have h3:A / 4294967296 ^ (k / 32)=nv ((zO A).drop (k / 32)):=by
   refine(congrArg (· / 4294967296 ^ (k / 32)) h1).trans ?_
   rw[Nat.add_mul_div_left _ _ (UB _),Nat.div_eq_of_lt h2,Nat.zero_add]
  rw[<- h3,Nat.div_div_eq_div_mul,Ei]
theorem Wh(k:Nat)(l:List Int):nv (List.replicate k 0++l)=4294967296 ^ k*nv l:=by rw[gM]; simp
theorem Qs(a:List Int)(ha:zu a)(la:a.length<=1000000000)(k:Nat)(hk:k<=4096):(yn a (k:Int)).run=some (zO (nv a*2 ^ k)):=by
 have qa:=q7 ha
 unfold yn
 rw[z6 (xP a ha (by omega))]
 generalize nv a=A at *
 have e1:YV (pz (k:Int) (-4096)) 4096=(k:Int):=by unfold YV pz; repeat' split<;>omega
 have e3:zZ (Int.tdiv (k:Int) 32)=((k / 32:Nat):Int):=by rw[fY (by omega),zI (by omega) (by omega)]; omega
 have e4:zS (Int.tmod (k:Int) 32)=((k % 32:Nat):Int):=by rw[eP (by omega),qK (by omega) (by omega)]; omega
 have hx:=zy A
 have e5:zZ ((zO A).length+1:Int)=(((zO A).length+1:Nat):Int):=i1 _ (by omega)
 have e6:zZ (zZ (((k / 32:Nat):Int)+(zO A).length)+1)=((k / 32+(zO A).length+1:Nat):Int):=by rw[zI (x:=((k / 32:Nat):Int)+(zO A).length) (by omega) (by omega),zI (by omega) (by omega)]; omega
 have tF:nv (zO A)*2 ^ (k % 32)<4294967296 ^ ((zO A).length+1):=by
  have h1:=ZK hx
  have h2:2 ^ (k % 32)<=2 ^ 32:=Nat.pow_le_pow_right (by omega) (by omega)
  rw[Nat.pow_succ]
  exact Nat.mul_lt_mul_of_lt_of_le h1 h2 (by omega)
 obtain⟨r,g1,g2,g3,g4⟩:=Wa (zO A) hx (by omega) (k % 32) ((zO A).length+1) (Nat.mod_lt _ (by omega)) (by omega) (by omega) tF
 simp only[e1,e3,e4,e5,e6]
 rw[za (by simp),c6 _ (by omega),T.run_mk _ (by omega) (by omega) (by omega) (by omega),c9 _ (by omega) (by simp; omega) (by simp),c6 _ (by omega),z6 g1]
 simp only[Int.toNat_natCast,Nat.zero_add,List.length_replicate,List.drop_zero]
 rw[LZ _ rfl (by omega),zi]
 have ec:((jm (k / 32) (k / 32+(zO A).length+1-k / 32) (List.replicate (k / 32+(zO A).length+1) (0:Int)) r))=List.replicate (k / 32) 0++r:=by
  unfold jm
  rw[List.take_replicate,List.drop_replicate,List.take_of_length_le (by omega)]
  rw[show k / 32+(zO A).length+1-(k / 32+min (k / 32+(zO A).length+1-k / 32) r.length)=0 by omega]
  rw[show min (k / 32) (k / 32+(zO A).length+1)=k / 32 by omega]
  simp
 rw[ec,List.take_of_length_le (by simp; omega)]
 rw[z6 (xP _ (nk.2 ⟨wy _,g2⟩) (by simp; omega)),z7,Wh,g4,qf]
 congr 2
 rw[<- Ei k]; grind
theorem BD{u2 u1 u0 v1 v2:Nat}(h2:u2<4294967296)(h1:u1<4294967296)(h0:u0<4294967296)(hv1:v1<4294967296)(QZ:v2<4294967296)(hn:2147483648<=v1)
  (ht:u2*18446744073709551616+u1*4294967296+u0<(v1*4294967296+v2+1)*4294967296) :
  (gR (u2:Int) (u1:Int) (u0:Int) (v1:Int) (v2:Int)).run=some ((min ((u2*18446744073709551616+u1*4294967296+u0) / (v1*4294967296+v2)) 4294967295:Nat):Int):=by
 obtain⟨t1,t2⟩:=BY hn QZ ht
 have ti:=K8 (u2:=u2) (u1:=u1) (u0:=u0) (v1:=v1) (v2:=v2) (by omega) h0
 obtain⟨Q,hQ⟩:∃ Q,(u2*18446744073709551616+u1*4294967296+u0) / (v1*4294967296+v2)=Q:=⟨_,rfl⟩
 rw[hQ]at ti ⊢
 have hV:0<v1*4294967296+v2:=by omega
 have e1:=IW (x:=(u2:Int)) (y:=(u1:Int)) (by omega) (by omega) (by omega) (by omega)
 have e2:(u2:Int)*4294967296+(u1:Int)=((u2*4294967296+u1:Nat):Int):=by omega
 have w1:zS (u1:Int)=u1:=yl (by omega)
 have w2:zS (u2:Int)=u2:=yl (by omega)
 have w0:zS (u0:Int)=u0:=yl (by omega)
 have x1:zS (v1:Int)=v1:=yl (by omega)
 have x2:zS (v2:Int)=v2:=yl (by omega)
 have e3:Int.tdiv ((u2*4294967296+u1:Nat):Int) (v1:Int)=(((u2*4294967296+u1) / v1:Nat):Int):=by rw[fY (by omega)]; rfl
 have e4:Int.tmod ((u2*4294967296+u1:Nat):Int) (v1:Int)=(((u2*4294967296+u1) % v1:Nat):Int):=by rw[eP (by omega)]; rfl
 have hm:(u2*4294967296+u1) % v1<v1:=Nat.mod_lt _ (by omega)
 have S5:=Nat.div_add_mod (u2*4294967296+u1) v1
 rw[Nat.mul_comm]at S5
 have loop:∃ r:Int,(o5 (u0:Int) (v1:Int) (v2:Int) ((((u2*4294967296+u1) / v1:Nat):Int),(((u2*4294967296+u1) % v1:Nat):Int))).run=some r/\r=((min Q 4294967295:Nat):Int):=by
  refine T.xW (λs:Int×Int=>∃ q r:Nat,s.1=(q:Int)/\s.2=(r:Int)/\q<=4294967297/\r<4294967296/\q*v1+r=u2*4294967296+u1/\min Q 4294967295<=q)
   (λs=>s.1.toNat) _ ?_ ⟨_,_,rfl,rfl,t2,by omega,S5,by omega⟩
  rintro⟨_,_⟩ ⟨q,r,rfl,rfl,hq,hr,hqr,Sh⟩
  have e5:=IW (x:=(r:Int)) (y:=(u0:Int)) (by omega) (by omega) (by omega) (by omega)
  have es:vc .u64 (q:Int) 32=((q / 4294967296:Nat):Int):=Qy q
  by_cases hbig:4294967296<=q\/r*4294967296+u0<q*v2
  ·-- too many
   have hgt:min Q 4294967295<q:=by
    rcases hbig with h | h
    ·omega
    ·have:=DO hV (Fp (u2:=u2) (u1:=u1) (u0:=u0) (v1:=v1) (v2:=v2) hqr h)
     omega
   have ec:((vc .u64 (q:Int) 32 != 0)||decide (QI .u64 (cO .u64 (r:Int) 32) (u0:Int)<zS ((q:Int)*(v2:Int))))=true:=by
    rw[es,e5]
    by_cases h:4294967296<=q
    ·have:(((q / 4294967296:Nat):Int) != 0)=true:=by simp; omega
     rw[this]; rfl
    ·have hh:r*4294967296+u0<q*v2:=hbig.resolve_left h
     have Dh:=iF (x:=q) (y:=v2) (Nat.lt_of_not_le h) QZ
     have e6:(q:Int)*(v2:Int)=((q*v2:Nat):Int):=by simp
     rw[e6,yl (Nat.lt_of_le_of_lt Dh (by decide))]
     generalize q*v2=z at *
     rw[show decide ((r:Int)*4294967296+(u0:Int)<(z:Int))=true from decide_eq_true (by omega)]; simp
   have eq1:zS ((q:Int)-1)=((q-1:Nat):Int):=by rw[qK (by omega) (by omega)]; omega
   have er1:zS ((r:Int)+(v1:Int))=((r+v1:Nat):Int):=by rw[qK (by omega) (by omega)]; omega
   have hq1:(q-1)*v1+(r+v1)=u2*4294967296+u1:=by
    obtain⟨p,rfl⟩:∃ p,q=p+1:=⟨q-1,by omega⟩
    rw[Nat.add_mul]at hqr
    simp only[Nat.add_sub_cancel]; omega
   by_cases hover:4294967296<=r+v1
   ·right
    refine⟨((q-1:Nat):Int),?_,?_⟩
    ·unfold kD
     simp only[w0,x1,x2,eq1,er1]
     rw[zd ⟨by omega,λ_=>by omega⟩,zc ec,kH _ (by omega),zc (by rw[Qy]; simp; omega),z7]
    ·-- what is left cannot be more
     have hq2:q-1<=Q:=by
      rw[<- hQ,Nat.le_div_iff_mul_le hV]
      refine Uk (u0:=u0) hq1 ?_
      have h3:q-1<=4294967295:=by
       rcases Nat.lt_or_ge 4294967296 q with h | h
       ·have TX:q=4294967297:=by omega
        subst TX
        simp only[Nat.add_one_sub_one]at hq1
        omega
       ·omega
      have h4:(q-1)*v2<=4294967295*4294967295:=Nat.mul_le_mul h3 (by omega)
      generalize (q-1)*v2=z at *
      omega
     have h5:q-1<=4294967295:=by
      rcases Nat.lt_or_ge 4294967296 q with h | h
      ·have TX:q=4294967297:=by omega
       subst TX
       simp only[Nat.add_one_sub_one]at hq1
       omega
      ·omega
     omega
   ·left
    refine⟨(((q-1:Nat):Int),((r+v1:Nat):Int)),?_,⟨q-1,r+v1,rfl,rfl,by omega,by omega,hq1,by omega⟩,by simp; omega⟩
    unfold kD
    simp only[w0,x1,x2,eq1,er1]
    rw[zd ⟨by omega,λ_=>by omega⟩,zc ec,kH _ (by omega),za (by rw[Qy]; simp; omega),z7]
  ·right
   have Dh:=iF (x:=q) (y:=v2) (by omega) QZ
   have e6:(q:Int)*(v2:Int)=((q*v2:Nat):Int):=by simp
   have ec:((vc .u64 (q:Int) 32 != 0)||decide (QI .u64 (cO .u64 (r:Int) 32) (u0:Int)<zS ((q:Int)*(v2:Int))))=false:=by
    have hz:q / 4294967296=0:=by omega
    rw[es,e5,e6,yl (Nat.lt_of_le_of_lt Dh (by decide)),hz]
    have hh:¬ (r*4294967296+u0<q*v2):=by omega
    generalize q*v2=z at *
    rw[show decide ((r:Int)*4294967296+(u0:Int)<(z:Int))=false from decide_eq_false (by omega)]; rfl
   refine⟨(q:Int),?_,?_⟩
   ·unfold kD
    simp only[w0,x1,x2]
    rw[zd ⟨by omega,λ_=>by omega⟩,za ec,z7]
   ·have hq2:q<=Q:=by
     rw[<- hQ,Nat.le_div_iff_mul_le hV]
     exact Uk hqr (by omega)
    omega
 obtain⟨r,hr,rfl⟩:=loop
 unfold gR
 have e7:zS (((u2*4294967296+u1) / v1:Nat):Int)=(((u2*4294967296+u1) / v1:Nat):Int):=yl (by omega)
 simp only[w1,w2,x1,e1,e2,e3,e4,e7]
 rw[kH _ (by omega),c6 _ (by omega),c6 _ (by omega),z6 hr,z7]
theorem X8{x y b:Nat}(hx:x<4294967296)(hy:y<4294967296)(hb:b<=1) :
  (u7 (x:Int) (y:Int) (b:Int)).run=some ((((x+4294967296*(if x<y+b then 1 else 0))-(y+b):Nat):Int),((if x<y+b then 1 else 0:Nat):Int)):=by
 have e1:=z2c hx hy hb
 have e2:=Is hx hy hb rfl
 unfold u7
 rw[kH _ (by omega),e1,e2,z7]
 have e3:(x+4294967296*(if x<y+b then 1 else 0))-y-b=(x+4294967296*(if x<y+b then 1 else 0))-(y+b):=by omega
 rw[e3]
 split<;>rfl
theorem CQ{x y b:Nat}(hx:x<4294967296)(hy:y<4294967296)(hb:b<=1) :
  (jH (x:Int) (y:Int) (b:Int)).run=some ((((x+y+b) % 4294967296:Nat):Int),(((x+y+b) / 4294967296:Nat):Int)):=by
 have e:zS (zS ((x:Int)+(y:Int))+(b:Int))=((x+y+b:Nat):Int):=by rw[qK (x:=(x:Int)+y) (by omega) (by omega),qK (by omega) (by omega)]; omega
 unfold jH
 rw[kH _ (by omega),yl (by omega),yl (by omega),yl (by omega),e,Qy,UA,r7 (by omega),z7]
theorem ko(xs:List Int)(o i:Nat)(x:Int):(xs.set (o+i) x).drop o=(xs.drop o).set i x:=by
 rw[List.drop_set,if_neg (by omega)]; congr 1; omega
theorem h9(xs:List Int)(o i:Nat):lm (xs.drop o) i=lm xs (o+i):=by
 unfold lm nth
 rw[show(((o+i:Nat):Int)).toNat=o+i by omega,Int.toNat_natCast]
 simp[List.getD_eq_getElem?_getD,List.getElem?_drop]
theorem Fw{X X' P N c bo q v w lo hi d Y k:Nat}(h:X+q*N=Y+(bo+c)*P)(hs:X'+P*w=X+P*d)(hc:c+q*v=lo+4294967296*hi)(hd:d+(lo+bo)=w+4294967296*k) :
  X'+q*(N+P*v)=Y+(k+hi)*(P*4294967296):=by
 have e1:P*(d+(lo+bo))=P*(w+4294967296*k):=by rw[hd]
 have e2:P*(c+q*v)=P*(lo+4294967296*hi):=by rw[hc]
 have e3:X'+P*w+q*N+P*(c+q*v)+P*(lo+bo)=X'+q*(N+P*v)+(P*w+P*c+P*(lo+bo)):=by grind
 have e4:X'+P*w+q*N+P*(c+q*v)+P*(lo+bo)=Y+(k+hi)*(P*4294967296)+(P*w+P*c+P*(lo+bo)):=by
  rw[hs,e2]
  have e5:X+P*d+q*N+P*(lo+4294967296*hi)+P*(lo+bo)=(X+q*N)+P*(d+(lo+bo))+P*(lo+4294967296*hi):=by grind
  rw[e5,e1,h]; grind
 omega
theorem z1D{c q v:Nat}(hc:c<4294967296)(hq:q<4294967296)(hv:v<4294967296):zS ((c:Int)+zS ((q:Int)*(v:Int)))=((c+q*v:Nat):Int)/\(c+q*v) / 4294967296<4294967296:=by
 have h:=iF hq hv
 have e:(q:Int)*(v:Int)=((q*v:Nat):Int):=by simp
 rw[e]
 generalize q*v=z at *
 rw[qK (x:=(z:Int)) (by omega) (by omega),qK (by omega) (by omega)]
 omega
theorem Ro(b:List Int)(hb:zu b)(lb:b.length<=1000000000)(q:Nat)(hq:q<4294967296)(u:List Int)(hu:zu u)(o:Nat)(ho:o+b.length<u.length) :
  ∃ r:(Nat×Nat)×Int×Int×List Int,(fq b (q:Int) b (b.length:Int) ((o,b.length+1),0,0,0,u)).run=some r/\r.1=(o,b.length+1)/\∃ c bo:Nat,r.2.1=(c:Int)/\r.2.2.1=(bo:Int)/\c<4294967296/\bo<=1/\zu r.2.2.2 /\
   r.2.2.2.length=u.length/\r.2.2.2.take o=u.take o/\(r.2.2.2.drop o).drop b.length=(u.drop o).drop b.length/\nv (r.2.2.2.drop o)+q*nv b=nv (u.drop o)+(bo+c)*4294967296 ^ b.length:=by
 refine T.xW (λs:(Nat×Nat)×Int×Int×Int×List Int=>s.1=(o,b.length+1)/\∃ c bo i:Nat,s.2.1=(c:Int)/\s.2.2.1=(bo:Int)/\s.2.2.2.1=(i:Int)/\c<4294967296/\bo<=1/\i<=b.length/\zu s.2.2.2.2 /\
   s.2.2.2.2.length=u.length/\s.2.2.2.2.take o=u.take o/\(s.2.2.2.2.drop o).drop i=(u.drop o).drop i/\nv (s.2.2.2.2.drop o)+q*nv (b.take i)=nv (u.drop o)+(bo+c)*4294967296 ^ i)
  (λs=>b.length-s.2.2.2.1.toNat) _ ?_ ⟨rfl,0,0,0,rfl,rfl,rfl,by omega,by omega,by omega,hu,rfl,rfl,rfl,by simp⟩
 rintro⟨_,_,_,_,xs⟩ ⟨rfl,c,bo,i,rfl,rfl,rfl,hc,hbo,hi,hl,hn,ht,hd,hv⟩
 simp only at hl hn ht hd hv ⊢
 by_cases qc:i<b.length
 ·left
  have hw:=uV hb i
  have hx:=uV hl (o+i)
  obtain⟨m1,m2⟩:=z1D hc hq hw
  have hs:=X8 hx (show(c+q*lm b i) % 4294967296<4294967296 by omega) hbo
  have DY:lm xs (o+i)+4294967296*(if lm xs (o+i)<(c+q*lm b i) % 4294967296+bo then 1 else 0)-((c+q*lm b i) % 4294967296+bo)<4294967296:=by split<;>omega
  have Dj:(if lm xs (o+i)<(c+q*lm b i) % 4294967296+bo then 1 else 0)<=1:=by split<;>omega
  have LB:lm xs (o+i)+4294967296*(if lm xs (o+i)<(c+q*lm b i) % 4294967296+bo then 1 else 0)-((c+q*lm b i) % 4294967296+bo)+((c+q*lm b i) % 4294967296+bo)=lm xs (o+i)+4294967296*(if lm xs (o+i)<(c+q*lm b i) % 4294967296+bo then 1 else 0):=by split<;>omega
  generalize hD:lm xs (o+i)+4294967296*(if lm xs (o+i)<(c+q*lm b i) % 4294967296+bo then 1 else 0)-((c+q*lm b i) % 4294967296+bo)=D at *
  generalize hB:(if lm xs (o+i)<(c+q*lm b i) % 4294967296+bo then 1 else 0)=B2 at *
  refine⟨((o,b.length+1),((((c+q*lm b i) / 4294967296:Nat)):Int),(B2:Int),((i+1:Nat):Int),xs.set (o+i) (D:Int)),?_,
   ⟨rfl,(c+q*lm b i) / 4294967296,B2,i+1,rfl,rfl,rfl,m2,Dj,by omega,xX hl _ DY,by simpa using hn,?_,?_,?_⟩,by simp; omega⟩
  ·unfold kK
   have ew:zS (lm b i:Int)=lm b i:=yl (by omega)
   simp only[wB,uv hb,Int.toNat_natCast,yC hl,ew,m1,UA,Qy,i1 i (by omega)]
   rw[zc (by simp; omega),qq _ (by omega) (by omega),qq _ (by omega) (by omega),jv _ rfl (by omega),z6 hs]
   simp only
   rw[qq _ (by omega) (by omega),jv _ rfl (by omega),kH _ (by omega),zd rfl,wZ _ (by simp),z7]
  ·simp only
   rw[List.take_set_of_le (by omega),ht]
  ·simp only
   rw[ko,uh]
   have:=congrArg (List.drop 1) hd
   rw[List.drop_drop,List.drop_drop,]at this
   simpa[Nat.add_assoc,Nat.add_comm]using this
  ·simp only
   rw[ko,zU,Nat.pow_succ]
   have yU:=Wf (a:=xs.drop o) (i:=i) (D:Int) (by simp; omega)
   rw[Int.toNat_natCast,h9]at yU
   exact Fw (lo:=(c+q*lm b i) % 4294967296) hv yU (by generalize c+q*lm b i=z; omega) LB
 ·right
  have:i=b.length:=by omega
  subst this
  refine⟨((o,b.length+1),(c:Int),(bo:Int),xs),?_,rfl,c,bo,rfl,rfl,hc,hbo,hl,hn,ht,hd,by simpa[List.take_length]using hv⟩
  unfold kK
  simp
theorem FZ{X X' P N m v w d hi Y:Nat}(h:X+m*P=Y+N)(hs:X'+P*w=X+P*d)(hd:d+4294967296*hi=w+v+m):X'+hi*(P*4294967296)=Y+(N+P*v):=by
 have e1:P*(d+4294967296*hi)=P*(w+v+m):=by rw[hd]
 have e2:X'+hi*(P*4294967296)+(P*w+P*m)=Y+(N+P*v)+(P*w+P*m):=by
  have e3:X'+hi*(P*4294967296)+(P*w+P*m)=(X'+P*w)+P*(4294967296*hi)+P*m:=by grind
  rw[e3,hs]
  have e4:X+P*d+P*(4294967296*hi)+P*m=(X+m*P)+P*(d+4294967296*hi):=by grind
  rw[e4,e1,h]; grind
 omega
theorem Rr(b:List Int)(hb:zu b)(lb:b.length<=1000000000)(u:List Int)(hu:zu u)(o:Nat)(ho:o+b.length<u.length) :
  ∃ r:(Nat×Nat)×Int×List Int,(fP b b (b.length:Int) ((o,b.length+1),0,0,u)).run=some r/\r.1=(o,b.length+1)/\∃ m:Nat,r.2.1=(m:Int)/\m<=1/\zu r.2.2 /\
   r.2.2.length=u.length/\r.2.2.take o=u.take o/\(r.2.2.drop o).drop b.length=(u.drop o).drop b.length/\nv (r.2.2.drop o)+m*4294967296 ^ b.length=nv (u.drop o)+nv b:=by
 refine T.xW (λs:(Nat×Nat)×Int×Int×List Int=>s.1=(o,b.length+1)/\∃ m i:Nat,s.2.1=(m:Int)/\s.2.2.1=(i:Int)/\m<=1/\i<=b.length/\zu s.2.2.2 /\
   s.2.2.2.length=u.length/\s.2.2.2.take o=u.take o/\(s.2.2.2.drop o).drop i=(u.drop o).drop i/\nv (s.2.2.2.drop o)+m*4294967296 ^ i=nv (u.drop o)+nv (b.take i))
  (λs=>b.length-s.2.2.1.toNat) _ ?_ ⟨rfl,0,0,rfl,rfl,by omega,by omega,hu,rfl,rfl,rfl,by simp⟩
 rintro⟨_,_,_,xs⟩ ⟨rfl,m,i,rfl,rfl,hm,hi,hl,hn,ht,hd,hv⟩
 simp only at hl hn ht hd hv ⊢
 by_cases qc:i<b.length
 ·left
  have hw:=uV hb i
  have hx:=uV hl (o+i)
  have hs:=CQ hx hw hm
  refine⟨((o,b.length+1),(((lm xs (o+i)+lm b i+m) / 4294967296:Nat):Int),((i+1:Nat):Int),xs.set (o+i) (((lm xs (o+i)+lm b i+m) % 4294967296:Nat):Int)),?_,
   ⟨rfl,_,i+1,rfl,rfl,by omega,by omega,xX hl _ (by omega),by simpa using hn,?_,?_,?_⟩,by simp; omega⟩
  ·unfold kJ
   simp only[wB,uv hb,Int.toNat_natCast,yC hl,i1 i (by omega)]
   rw[zc (by simp; omega),qq _ (by omega) (by omega),qq _ (by omega) (by omega),jv _ rfl (by omega),z6 hs]
   simp only
   rw[qq _ (by omega) (by omega),jv _ rfl (by omega),zd rfl,wZ _ (by simp),z7]
  ·simp only
   rw[List.take_set_of_le (by omega),ht]
  ·simp only
   rw[ko,uh]
   have:=congrArg (List.drop 1) hd
   rw[List.drop_drop,List.drop_drop,]at this
   simpa[Nat.add_assoc,Nat.add_comm]using this
  ·simp only
   rw[ko,zU,Nat.pow_succ]
   have yU:=Wf (a:=xs.drop o) (i:=i) (((lm xs (o+i)+lm b i+m) % 4294967296:Nat):Int) (by simp; omega)
   rw[Int.toNat_natCast,h9]at yU
   exact FZ hv yU (by omega)
 ·right
  have:i=b.length:=by omega
  subst this
  refine⟨((o,b.length+1),(m:Int),xs),?_,rfl,m,rfl,hm,hl,hn,ht,hd,by simpa[List.take_length]using hv⟩
  unfold kJ
  simp
theorem eU{D:List Int}(hl:zu D)(k:Nat)(hk:k<=D.length)(h:nv D<4294967296 ^ k):nv (D.drop k)=0:=by
 have h1:=yL D k hk
 rcases Nat.eq_zero_or_pos (nv (D.drop k))with z | z
 ·exact z
 ·have:=Nat.mul_le_mul_left (4294967296 ^ k) z
  omega
theorem n3{D:List Int}(hl:zu D)(k:Nat)(hk:k<=D.length)(h:nv (D.drop k)=0):nv D<4294967296 ^ k:=by
 have h1:=yL D k hk
 have h2:=vZ hl k
 rw[h]at h1; omega
theorem Ie{X X' P q N c bo w d Y k:Nat}(h:X+q*N=Y+(bo+c)*P)(hs:X'+P*w=X+P*d)(hd:d+(c+bo)=w+4294967296*k):X'+q*N=Y+k*(P*4294967296):=by
 have e1:P*(d+(c+bo))=P*(w+4294967296*k):=by rw[hd]
 have e2:X'+q*N+(P*w+P*(c+bo))=Y+k*(P*4294967296)+(P*w+P*(c+bo)):=by
  have e3:X'+q*N+(P*w+P*(c+bo))=(X'+P*w)+q*N+P*(c+bo):=by grind
  rw[e3,hs]
  have e4:X+P*d+q*N+P*(c+bo)=(X+q*N)+P*(d+(c+bo)):=by grind
  rw[e4,h,e1]; grind
 omega
theorem I8{Z Y X U P L m p N:Nat}(h1:Z+P*L=Y+P*((L+m) % 4294967296))(h2:Y+m*P=X+N)(h3:X+(p+1)*N=U+1*(P*4294967296))(h4:Z<P*4294967296)(h5:(p+1)*N<=U+N)
  (hm:m<=1) (hL:L<4294967296):Z+(p+1-1)*N=U:=by
 rw[Kv]at h3 h5
 rw[Nat.add_sub_cancel]
 rw[Nat.mul_comm m P]at h2
 by_cases hov:L+m<4294967296
 ·rw[Nat.mod_eq_of_lt hov,Nat.mul_add]at h1
  generalize P*L=a at *
  generalize P*m=b at *
  generalize p*N=c at *
  omega
 ·have z4G:(L+m) % 4294967296=0:=by omega
  have e5:P*(L+m)=P*4294967296:=by congr 1; omega
  rw[z4G,Nat.mul_zero]at h1
  rw[Nat.mul_add]at e5
  generalize P*L=a at *
  generalize P*m=b at *
  generalize p*N=c at *
  omega
theorem BF(b:List Int)(hb:zu b)(lb:b.length<=1000000000)(q:Nat)(hq:q<4294967296)(u:List Int)(hu:zu u)(lu:u.length<=4000000000)(o:Nat)(ho:o+b.length<u.length)
  (tF:nv (u.drop o)<4294967296 ^ (b.length+1)) (z2h:q*nv b<=nv (u.drop o)+nv b) :
  ∃ xs:List Int,(bW (o,b.length+1) b (q:Int) u).run=some (decide (nv (u.drop o)<q*nv b),xs)/\zu xs/\xs.length=u.length/\xs.take o=u.take o /\
   nv (xs.drop o)+(if nv (u.drop o)<q*nv b then q-1 else q)*nv b=nv (u.drop o):=by
 obtain⟨⟨_,_,_,xs⟩,hr,rfl,c,bo,rfl,rfl,hc,hbo,hl,hn,ht,hd,hv⟩:=Ro b hb lb q hq u hu o ho
 simp only at hl hn ht hd hv
 have hBl:=ZK hb
 have hx:=uV hl (o+b.length)
 have hs:=X8 hx hc hbo
 have DY:lm xs (o+b.length)+4294967296*(if lm xs (o+b.length)<c+bo then 1 else 0)-(c+bo)<4294967296:=by split<;>omega
 have Dj:(if lm xs (o+b.length)<c+bo then 1 else 0)<=1:=by split<;>omega
 have LB:lm xs (o+b.length)+4294967296*(if lm xs (o+b.length)<c+bo then 1 else 0)-(c+bo)+(c+bo)=lm xs (o+b.length)+4294967296*(if lm xs (o+b.length)<c+bo then 1 else 0):=by split<;>omega
 generalize lm xs (o+b.length)+4294967296*(if lm xs (o+b.length)<c+bo then 1 else 0)-(c+bo)=D at *
 generalize (if lm xs (o+b.length)<c+bo then 1 else 0)=B2 at *
 have yU:=Wf (a:=xs.drop o) (i:=b.length) (D:Int) (by simp; omega)
 rw[Int.toNat_natCast,h9,<- ko]at yU
 have Rd:=Ie hv yU LB
 have hl1:zu (xs.set (o+b.length) (D:Int)):=xX hl _ DY
 have J5:(xs.set (o+b.length) (D:Int)).length=u.length:=by simpa using hn
 have ht1:(xs.set (o+b.length) (D:Int)).take o=u.take o:=by rw[List.take_set_of_le (by omega),ht]
 have C8:((xs.set (o+b.length) (D:Int)).drop o).drop (b.length+1)=(u.drop o).drop (b.length+1):=by
  rw[ko,uh]
  have:=congrArg (List.drop 1) hd
  rw[List.drop_drop,List.drop_drop]at this
  simpa[Nat.add_assoc,Nat.add_comm]using this
 have hz:=eU (br hu o) (b.length+1) (by simp; omega) tF
 have Iw:nv ((xs.set (o+b.length) (D:Int)).drop o)<4294967296 ^ (b.length+1):=n3 (br hl1 o) _ (by simp; omega) (by rw[C8]; exact hz)
 have z4R:(4294967296:Nat) ^ (b.length+1)=4294967296 ^ b.length*4294967296:=Nat.pow_succ ..
 have ec:vv (c:Int)=c:=r7 hc
 unfold bW
 rw[wZ _ rfl,wZ _ rfl,z6 hr]
 simp only[Int.toNat_natCast,wB,yC hl,ec]
 rw[qq _ (by omega) (by omega),jv _ rfl (by omega),z6 hs]
 simp only
 rw[qq _ (by omega) (by omega),jv _ rfl (by omega)]
 generalize hX:xs.set (o+b.length) (D:Int)=X at *
 rcases Nat.eq_zero_or_pos B2 with z | z
 ·subst z
  rw[zc (by simp),wZ _ (by omega),z7]
  have G1:¬ (nv (u.drop o)<q*nv b):=by omega
  refine⟨X,by rw[decide_eq_false G1],hl1,J5,ht1,?_⟩
  rw[if_neg G1]; omega
 ·have hB2:B2=1:=by omega
  subst hB2
  have qc:nv (u.drop o)<q*nv b:=by omega
  obtain⟨⟨_,_,ys⟩,Tu,rfl,m,rfl,hm,dF,VL,Xg,OD,QZ⟩:=Rr b hb lb X hl1 o (by omega)
  simp only at dF VL Xg OD QZ
  have hy:=uV dF (o+b.length)
  have eu:vv ((lm ys (o+b.length):Int)+(m:Int))=(((lm ys (o+b.length)+m) % 4294967296:Nat):Int):=by rw[<- UA]; rfl
  rw[za (by simp),zd rfl,wZ _ (by omega),z6 Tu]
  simp only[Int.toNat_natCast,wB,yC dF,eu]
  rw[qq _ (by omega) (by omega),jv _ rfl (by omega),qq _ (by omega) (by omega),jv _ rfl (by omega),wZ _ (by simp),z7]
  have OI:=Wf (a:=ys.drop o) (i:=b.length) (((lm ys (o+b.length)+m) % 4294967296:Nat):Int) (by simp; omega)
  rw[Int.toNat_natCast,h9,<- ko]at OI
  have hl3:zu (ys.set (o+b.length) (((lm ys (o+b.length)+m) % 4294967296:Nat):Int)):=xX dF _ (by omega)
  have hd3:((ys.set (o+b.length) (((lm ys (o+b.length)+m) % 4294967296:Nat):Int)).drop o).drop (b.length+1)=(u.drop o).drop (b.length+1):=by
   rw[ko,uh,<- C8]
   have:=congrArg (List.drop 1) OD
   rw[List.drop_drop,List.drop_drop]at this
   simpa[Nat.add_assoc,Nat.add_comm]using this
  have z06:nv ((ys.set (o+b.length) (((lm ys (o+b.length)+m) % 4294967296:Nat):Int)).drop o)<4294967296 ^ (b.length+1):=n3 (br hl3 o) _ (by simp; omega) (by rw[hd3]; exact hz)
  refine⟨_,by rw[decide_eq_true qc],hl3,by simp; omega,?_,?_⟩
  ·rw[List.take_set_of_le (by omega),Xg,ht1]
  ·rw[if_pos qc]
   generalize nv ((ys.set (o+b.length) (((lm ys (o+b.length)+m) % 4294967296:Nat):Int)).drop o)=Z at *
   obtain⟨p,rfl⟩:∃ p,q=p+1:=⟨q-1,by
    rcases Nat.eq_zero_or_pos q with h | h
    ·subst h; omega
    ·omega⟩
   rw[z4R]at z06
   exact I8 OI QZ Rd z06 z2h hm hy
def dc:zf:=[0,1,2,2,3,3,3,3,4,4,4,4,4,4,4,4]++List.replicate 16 5++List.replicate 32 6++List.replicate 64 7++List.replicate 128 8
theorem Bv:∀ y:Fin 256,y.val≠0->1<=(dc.getD y.val 0).toNat/\(dc.getD y.val 0).toNat<=8/\2 ^ ((dc.getD y.val 0).toNat-1)<=y.val/\y.val<2 ^ (dc.getD y.val 0).toNat:=by decide +kernel
set_option maxRecDepth 100000 in
theorem G2:dc.length=256:=by decide +kernel
theorem len8{y:Nat}(h0:0<y)(h:y<256):∃ t:Nat,qz dc (y:Int)=(t:Int)/\1<=t/\t<=8/\2 ^ (t-1)<=y/\y<2 ^ t:=by
 have:=Bv ⟨y,h⟩ (by simp; omega)
 refine⟨(dc.getD y 0).toNat,?_,this⟩
 unfold qz
 rw[Int.toNat_natCast]
theorem B5{x s:Nat}(hs:s<=32):vc .u32 (x:Int) (s:Int)=((x / 2 ^ s:Nat):Int):=by
 have e:min (s:Int).toNat 32=s:=by simp; omega
 show Int.fdiv (x:Int) (2 ^ (min (s:Int).toNat 32))=_
 rw[e]
 have e2:(2:Int) ^ s=((2 ^ s:Nat):Int):=by simp
 rw[e2,Int.fdiv_eq_ediv_of_nonneg _ (Int.natCast_nonneg _)]; rfl
set_option maxRecDepth 100000 in
theorem CP{x:Nat}(h0:0<x)(h:x<4294967296):∃ t:Nat,(jI (x:Int)).run=some (t:Int)/\1<=t/\t<=32/\2 ^ (t-1)<=x/\x<2 ^ t:=by
 have z5K:jI (x:Int)=(.zC (((decide ((65536:Int)<=(x:Int)))=true)->((0:Int)<=(16:Int))) <|
  .zC (((decide ((256:Int)<=(bif (decide ((65536:Int)<=(x:Int)))then(vc .u32 (x:Int) (16:Int))else(x:Int))))=true)->((0:Int)<=(8:Int))) <|
  .zC (qO (Lm (bif (decide ((256:Int)<=(bif (decide ((65536:Int)<=(x:Int)))then(vc .u32 (x:Int) (16:Int))else(x:Int))))then(vc .u32 (bif (decide ((65536:Int)<=(x:Int)))then(vc .u32 (x:Int) (16:Int))else(x:Int)) (8:Int))else(bif (decide ((65536:Int)<=(x:Int)))then(vc .u32 (x:Int) (16:Int))else(x:Int)))) dc.length) <|
  .ret (zZ ((bif (decide ((256:Int)<=(bif (decide ((65536:Int)<=(x:Int)))then(vc .u32 (x:Int) (16:Int))else(x:Int))))then(zZ ((bif (decide ((65536:Int)<=(x:Int)))then(16:Int)else(0:Int))+(8:Int)))else(bif (decide ((65536:Int)<=(x:Int)))then(16:Int)else(0:Int)))+(zZ (qz dc (Lm (bif (decide ((256:Int)<=(bif (decide ((65536:Int)<=(x:Int)))then(vc .u32 (x:Int) (16:Int))else(x:Int))))then(vc .u32 (bif (decide ((65536:Int)<=(x:Int)))then(vc .u32 (x:Int) (16:Int))else(x:Int)) (8:Int))else(bif (decide ((65536:Int)<=(x:Int)))then(vc .u32 (x:Int) (16:Int))else(x:Int)))))))):T Int):=by rfl
 rw[z5K,G2]
 -- y: what is left; k: how many bits ahead of it
 obtain⟨y,k,e1,e2,hk,RE,hy,PX,Rt⟩:∃ y k:Nat,(bif (decide ((256:Int)<=(bif (decide ((65536:Int)<=(x:Int)))then(vc .u32 (x:Int) (16:Int))else(x:Int))))then(vc .u32 (bif (decide ((65536:Int)<=(x:Int)))then(vc .u32 (x:Int) (16:Int))else(x:Int)) (8:Int))else(bif (decide ((65536:Int)<=(x:Int)))then(vc .u32 (x:Int) (16:Int))else(x:Int)))=(y:Int) /\
   (bif (decide ((256:Int)<=(bif (decide ((65536:Int)<=(x:Int)))then(vc .u32 (x:Int) (16:Int))else(x:Int))))then(zZ ((bif (decide ((65536:Int)<=(x:Int)))then(16:Int)else(0:Int))+(8:Int)))else(bif (decide ((65536:Int)<=(x:Int)))then(16:Int)else(0:Int)))=(k:Int) /\
   k<=24/\0<y/\y<256/\y*2 ^ k<=x/\x<(y+1)*2 ^ k:=by
  have s16:vc .u32 (x:Int) 16=((x / 65536:Nat):Int):=B5 (s:=16) (by omega)
  have s8:∀ z:Nat,vc .u32 (z:Int) 8=((z / 256:Nat):Int):=λz=>B5 (s:=8) (by omega)
  by_cases c1:65536<=x
  ·rw[show decide ((65536:Int)<=(x:Int))=true from decide_eq_true (by omega)]
   simp only[cond_true,s16]
   by_cases c2:256<=x / 65536
   ·rw[show decide ((256:Int)<=((x / 65536:Nat):Int))=true from decide_eq_true (by omega)]
    simp only[cond_true,s8]
    exact⟨x / 65536 / 256,24,rfl,by decide,by omega,by omega,by omega,by omega,by omega⟩
   ·rw[show decide ((256:Int)<=((x / 65536:Nat):Int))=false from decide_eq_false (by omega)]
    simp only[cond_false]
    exact⟨x / 65536,16,rfl,rfl,by omega,by omega,by omega,by omega,by omega⟩
  ·rw[show decide ((65536:Int)<=(x:Int))=false from decide_eq_false (by omega)]
   simp only[cond_false]
   by_cases c2:256<=x
   ·rw[show decide ((256:Int)<=(x:Int))=true from decide_eq_true (by omega)]
    simp only[cond_true,s8]
    exact⟨x / 256,8,rfl,by decide,by omega,by omega,by omega,by omega,by omega⟩
   ·rw[show decide ((256:Int)<=(x:Int))=false from decide_eq_false (by omega)]
    simp only[cond_false]
    exact⟨x,0,rfl,rfl,by omega,by omega,by omega,by omega,by omega⟩
 obtain⟨t,t1,t2,t3,t4,t5⟩:=len8 RE hy
 rw[e1,e2,Gc (by omega) (by omega),t1,zI (x:=(t:Int)) (by omega) (by omega),zI (by omega) (by omega)]
 refine⟨k+t,?_,by omega,by omega,?_,?_⟩
 ·rw[zd (λ_=>by omega),zd (λ_=>by omega),qq _ (by omega) (by omega),z7]; rfl
 ·rw[show k+t-1=(t-1)+k by omega,Nat.pow_add]
  exact Nat.le_trans (Nat.mul_le_mul_right _ t4) PX
 ·rw[show k+t=t+k by omega,Nat.pow_add]
  exact Nat.lt_of_lt_of_le Rt (Nat.mul_le_mul_right _ t5)
theorem Eh{x:Nat}(h0:0<x)(h:x<4294967296):∃ s:Nat,(wa (x:Int)).run=some (s:Int)/\s<32/\2147483648<=x*2 ^ s/\x*2 ^ s<4294967296:=by
 obtain⟨t,t1,t2,t3,t4,t5⟩:=CP h0 h
 refine⟨32-t,?_,by omega,?_,?_⟩
 ·unfold wa
  rw[z6 t1,z7,zI (by omega) (by omega)]
  congr 1; omega
 ·have:=Nat.mul_le_mul_right (2 ^ (32-t)) t4
  rw[<- Nat.pow_add,show t-1+(32-t)=31 by omega]at this
  exact this
 ·have:=Nat.mul_lt_mul_of_pos_right t5 (show 0<2 ^ (32-t)from Nat.pow_pos (by omega))
  rw[<- Nat.pow_add,show t+(32-t)=32 by omega]at this
  exact this
theorem horner(a b c:Nat):(a*4294967296+b)*4294967296+c=a*18446744073709551616+b*4294967296+c:=by
 rw[Nat.add_mul,Nat.mul_assoc]
theorem G9{u2 u1 u0 v1 v2:Nat}(h2:u2<4294967296)(h1:u1<4294967296)(h0:u0<4294967296)(hv1:v1<4294967296)(QZ:v2<4294967296)(hn:2147483648<=v1)
  (ht:(u2*4294967296+u1)*4294967296+u0<(v1*4294967296+v2+1)*4294967296) :
  (gR (u2:Int) (u1:Int) (u0:Int) (v1:Int) (v2:Int)).run=some ((min (((u2*4294967296+u1)*4294967296+u0) / (v1*4294967296+v2)) 4294967295:Nat):Int):=by
 rw[horner]at ht ⊢
 exact BD h2 h1 h0 hv1 QZ hn ht
theorem L7(a b P t:Nat):t+P*b+P*4294967296*a=(a*4294967296+b)*P+t:=by grind
theorem z0d(d:List Int)(n:Nat)(hn:d.length=n+2):nv d=(lm d (n+1)*4294967296+lm d n)*4294967296 ^ n+nv (d.take n):=by
 have h1:=zU d n
 have h2:=zU d (n+1)
 rw[xr (by omega)]at h2
 rw[h2,h1,Nat.pow_succ,L7]
theorem IS{B a b c P t0 t1 t2 t3:Nat}(h1:t1=t0+P*c)(h2:t2=t1+P*B*b)(h3:t3=t2+P*B*B*a):t3=((a*B+b)*B+c)*P+t0:=by
 rw[h3,h2,h1]; grind
theorem z5Z(w:List Int)(n:Nat)(h:nv (w.drop (n+1+1+1))=0):nv w=((lm w (n+1+1)*4294967296+lm w (n+1))*4294967296+lm w n)*4294967296 ^ n+nv (w.take n):=by
 have h0:nv w=nv (w.take (n+1+1+1)):=by
  by_cases c:n+1+1+1<=w.length
  ·have:=yL w (n+1+1+1) c
   rw[h,Nat.mul_zero,Nat.add_zero]at this; exact this
  ·rw[xr (by omega)]
 have h1:=zU w n
 have h2:=zU w (n+1)
 have h3:=zU w (n+1+1)
 rw[Nat.pow_succ]at h2
 rw[Nat.pow_succ,Nat.pow_succ,<- h0]at h3
 exact IS h1 h2 h3
theorem Yb{a b:List Int}{k i:Nat}(h:a.take k=b.take k)(hi:i<k):lm a i=lm b i:=by
 have e:=congrArg (λl=>l[i]?) h
 simp only[List.getElem?_take,if_pos hi]at e
 unfold lm nth
 rw[List.getD_eq_getElem?_getD,List.getD_eq_getElem?_getD,Int.toNat_natCast,e]
theorem RV{U3 V2 D X Y U V:Nat}(hU:U=U3*D+X)(hV:V=V2*D+Y)(hY:Y<D)(hUV:U<V*4294967296):U3<(V2+1)*4294967296:=by
 have h1:U3*D<(V2+1)*4294967296*D:=by
  have e:(V2+1)*4294967296*D=(V2*D+D)*4294967296:=by grind
  rw[e]
  have:V*4294967296<=(V2*D+D)*4294967296:=Nat.mul_le_mul_right _ (by omega)
  omega
 exact Nat.lt_of_mul_lt_mul_right h1
theorem Ct(d:List Int)(hd:zu d)(n:Nat)(hn:d.length=n+2)(Ji:2147483648<=lm d (n+1))(w:List Int)(hw:zu w)(hwl:n+1+1+1<=w.length)(hW:nv w<nv d*4294967296) :
  ∃ x:Nat,(gR (lm w (n+1+1):Int) (lm w (n+1):Int) (lm w n:Int) (lm d (n+1):Int) (lm d n:Int)).run=some (x:Int)/\x<4294967296/\nv w / nv d<=x/\x<=nv w / nv d+1/\nv w<4294967296 ^ (d.length+1):=by
 have DY:=ZK hd
 have hdt:=z0d d n hn
 have Tx:=vZ hd n
 have hWp:nv w<4294967296 ^ (d.length+1):=by
  rw[Nat.pow_succ]
  exact Nat.lt_of_lt_of_le hW (Nat.mul_le_mul_right _ (Nat.le_of_lt DY))
 have hz:=eU hw (d.length+1) (by omega) hWp
 rw[show d.length+1=n+1+1+1 by omega]at hz
 have ht3:=z5Z w n hz
 have hwn:=vZ hw n
 have hU3:=RV ht3 hdt Tx hW
 refine⟨_,G9 (uV hw _) (uV hw _) (uV hw _) (uV hd _) (uV hd _) Ji hU3,?_,?_,?_,hWp⟩
 ·exact Nat.lt_of_le_of_lt (Nat.min_le_right _ _) (by decide)
 ·refine(Bi ht3 hwn hdt Tx ?_ hW rfl).1
  exact Nat.le_trans (Nat.mul_le_mul_right 4294967296 Ji) (Nat.le_add_right _ _)
 ·refine(Bi ht3 hwn hdt Tx ?_ hW rfl).2
  exact Nat.le_trans (Nat.mul_le_mul_right 4294967296 Ji) (Nat.le_add_right _ _)
theorem z4p{W V x:Nat}(g2:x<=W / V+1):x*V<=W+V:=by
 have h1:=Nat.mul_le_mul_right V g2
 have h2:=Nat.div_mul_le_self W V
 rw[Nat.add_mul,Nat.one_mul]at h1
 omega
theorem digit{W V x:Nat}(hV:0<V)(g1:W / V<=x)(g2:x<=W / V+1):(if W<x*V then x-1 else x)=W / V:=by
 have S5:=Nat.div_add_mod W V
 have hml:=Nat.mod_lt W hV
 have hz:0<=W / V:=Nat.zero_le _
 split
 ·rename_i c
  have:x≠W / V:=by
   intro h
   rw[h,Nat.mul_comm]at c; omega
  generalize W / V=z at *
  omega
 ·rename_i c
  have hle:x<=W / V:=(Nat.le_div_iff_mul_le hV).2 (by omega)
  exact Nat.le_antisymm hle g1
theorem SC{l N V:Nat}(hl:l<4294967296)(hN:N<V):l+4294967296*N<V*4294967296:=by
 have:=Nat.mul_le_mul_left 4294967296 (show N+1<=V from hN)
 omega
theorem BR{l N Q V z r R:Nat}(h:r+z*V=l+4294967296*N)(hR:R=Q*V+N):l+4294967296*R=(z+4294967296*Q)*V+r:=by
 rw[hR]
 have e:(z+4294967296*Q)*V+r=(r+z*V)+4294967296*(Q*V):=by grind
 rw[e,h]; omega
theorem YQ(d:List Int)(hd:zu d)(n:Nat)(hn:d.length=n+2)(ln:n<=999999990)(Ji:2147483648<=lm d (n+1))(y:Int)(i:Nat)(li:i<=1000000000)(u q:List Int)(hl:zu u)(lu:u.length<=2000000000)(hiu:i+d.length<u.length)
  (hq:zu q) (hiq:i<q.length) (qc:nv (u.drop (i+1))<nv d) :
  ∃ (xs:List Int) (z:Nat),(yQ y d ((n+2:Nat):Int) ((i:Int),u,q)).run=some (.inl ((i:Int)-1,xs,q.set i (z:Int)))/\z<4294967296/\zu xs/\xs.length=u.length/\xs.take i=u.take i/\nv (xs.drop i)<nv d /\
   nv (xs.drop i)+z*nv d=lm u i+4294967296*nv (u.drop (i+1)):=by
 have hwd:=sr (a:=u) (i:=i) (by omega)
 have hW:=SC (uV hl i) qc
 rw[<- hwd]at hW
 obtain⟨x,hg,hx,g1,g2,hWp⟩:=Ct d hd n hn Ji (u.drop i) (br hl i) (by rw[List.length_drop]; omega) hW
 have hdp:0<nv d:=Nat.lt_of_le_of_lt (Nat.zero_le _) qc
 obtain⟨xs,hr,U7,hxn,SW,Ku⟩:=BF d hd (by omega) x hx u hl (by omega) i hiu hWp (z4p g2)
 have RU:=digit hdp g1 g2
 rw[RU]at Ku
 rw[h9,h9,h9]at hg
 have hdq:nv (u.drop i) / nv d<4294967296:=Nat.lt_of_le_of_lt g1 hx
 have Rp:nv (xs.drop i)<nv d:=by
  have h1:=Nat.div_add_mod (nv (u.drop i)) (nv d)
  have h2:=Nat.mod_lt (nv (u.drop i)) hdp
  rw[Nat.mul_comm]at h1
  omega
 refine⟨xs,nv (u.drop i) / nv d,?_,hdq,U7,hxn,SW,Rp,by rw[Ku,hwd]⟩
 have S4:∀ c:Bool,c=decide (nv (u.drop i)<x*nv d)->(if c=true then zS ((x:Int)-1)else(x:Int))=((nv (u.drop i) / nv d:Nat):Int):=by
  intro c hc
  rw[<- RU]
  by_cases cc:nv (u.drop i)<x*nv d
  ·have sI:x≠0:=by intro h; subst h; omega
   rw[hc,decide_eq_true cc,if_pos rfl,if_pos cc,qK (by omega) (by omega)]; omega
  ·rw[hc,decide_eq_false cc,if_neg (by simp),if_neg cc]
 generalize nv (u.drop i) / nv d=z at *
 clear g1 g2 Ku RU hW hWp qc Rp hwd
 have ei:zZ ((i:Int)-1)=(i:Int)-1:=zI (by omega) (by omega)
 have a0:zZ ((i:Int)+((n+2:Nat):Int))=((i+(n+1+1):Nat):Int):=by rw[zI (by omega) (by omega)]; omega
 have a1:zZ (((i+(n+1+1):Nat):Int)-1)=((i+(n+1):Nat):Int):=by rw[zI (by omega) (by omega)]; omega
 have a2:zZ (((i+(n+1+1):Nat):Int)-2)=((i+n:Nat):Int):=by rw[zI (by omega) (by omega)]; omega
 have a3:zZ (((n+2:Nat):Int)-1)=((n+1:Nat):Int):=by rw[zI (by omega) (by omega)]; omega
 have a4:zZ (((n+2:Nat):Int)-2)=((n:Nat):Int):=by rw[zI (by omega) (by omega)]; omega
 have a5:zZ (((i+(n+1+1):Nat):Int)+1)=((i+(n+1+1)+1:Nat):Int):=i1 _ (by omega)
 have z6E:i+(n+1+1)+1-i=d.length+1:=by omega
 unfold yQ
 simp only[ei,a0,a1,a2,a3,a4,a5]
 rw[zc (by simp)]
 rw[qq _ (by omega) (by omega),jv _ rfl (by omega),qq _ (by omega) (by omega),jv _ rfl (by omega),qq _ (by omega) (by omega),jv _ rfl (by omega),qq _ (by omega) (by omega),qq _ (by omega) (by omega)]
 simp only[Int.toNat_natCast,Nat.zero_add,wB,yC hl,uv hd,z6E]
 rw[z6 hg]
 have hc:=S4 _ rfl
 rw[z6 (a:=((z:Int),xs,q)) ?_]
 ·simp only[r7 hdq]
  rw[qq _ (by omega) (by omega),jv _ rfl (by omega),zH _ (by simp) rfl (by simp),zH _ rfl rfl rfl,zd rfl,wZ _ (by simp),z7]
 ·rw[c9 _ (by omega) (by omega) (by omega),zd rfl,zd rfl,z6 hr]
  simp only[nq]
  by_cases cc:nv (u.drop i)<x*nv d
  ·rw[if_pos (decide_eq_true cc)]at hc ⊢
   rw[zH _ rfl rfl rfl,zH _ (by omega) rfl (by omega),zd rfl,zd rfl,z7,hc]
  ·rw[if_neg (by simpa using cc)]at hc ⊢
   rw[zH _ rfl rfl rfl,zH _ (by omega) rfl (by omega),zd rfl,zd rfl,z7,hc]
theorem D0(d:List Int)(hd:zu d)(m n:Nat)(hn:d.length=n+2)(hm:n+2<=m)(lm':m<=999999990)(Ji:2147483648<=lm d (n+1))(u0:List Int)(hu0:zu u0)(hlu:u0.length=m+1)
  (xm:nv (u0.drop (m-(n+2)+1))<nv d) (y:Int) :
  ∃ r:List Int×List Int,(rM y d ((n+2:Nat):Int) (((m-(n+2):Nat):Int),u0,List.replicate (m-(n+2)+1) 0)).run=some r/\zu r.1/\r.1.length=m+1/\zu r.2/\r.2.length=m-(n+2)+1/\nv r.1<nv d/\nv u0=nv r.2*nv d+nv r.1:=by
 refine T.xW (λs:Int×List Int×List Int=>∃ k:Nat,s.1=(k:Int)-1/\k<=m-(n+2)+1/\zu s.2.1/\s.2.1.length=m+1/\zu s.2.2/\s.2.2.length=m-(n+2)+1/\s.2.1.take k=u0.take k /\
   nv (s.2.1.drop k)<nv d/\nv (u0.drop k)=nv (s.2.2.drop k)*nv d+nv (s.2.1.drop k))
  (λs=>(s.1+1).toNat) _ ?_ ⟨m-(n+2)+1,by simp,Nat.le_refl _,hu0,hlu,wy _,by simp,rfl,xm,by simp⟩
 rintro⟨_,u,q⟩ ⟨k,rfl,hk,hl,hul,hq,hql,htk,qc,hv⟩
 simp only at hl hul hq hql htk qc hv ⊢
 cases k with
 | zero =>
  right
  refine⟨(u,q),?_,hl,hul,hq,hql,by simpa using qc,by simpa using hv⟩
  unfold yQ
  simp
 | succ i =>
  left
  obtain⟨xs,z,hr,hz,U7,hxn,SW,hxm,Ku⟩:=YQ d hd n hn (by omega) Ji y i (by omega) u q hl (by omega) (by omega) hq (by omega) qc
  have e1:((i+1:Nat):Int)-1=(i:Int):=by omega
  refine⟨((i:Int)-1,xs,q.set i (z:Int)),by rw[e1]; exact hr,⟨i,rfl,by omega,U7,hxn.trans hul,xX hq _ hz,by simpa using hql,?_,hxm,?_⟩,by simp⟩
  ·simp only
   rw[SW]
   have:=congrArg (List.take i) htk
   rwa [List.take_take,List.take_take,show min i (i+1)=i by omega]at this
  ·simp only
   rw[set_drop _ (by omega),Int.toNat_natCast,sr (a:=u0) (by omega),<- Yb htk (show i<i+1 by omega)]
   exact BR Ku hv
theorem Fa{A B S Q R:Nat}(hS:0<S)(h:A*S=Q*(B*S)+R)(hR:R<B*S):Q=A / B/\R / S=A % B:=by
 have hB:0<B:=Nat.pos_of_ne_zero λz=>by subst z; simp at hR
 have h1:=Nat.div_add_mod R S
 have h2:=Nat.mod_lt R hS
 -- R is a multiple of S
 have h3:A*S=S*(Q*B+R / S)+R % S:=by
  have e:Q*(B*S)=S*(Q*B):=by grind
  rw[h,e,Nat.mul_add]; omega
 have h4:R % S=0:=by
  have:=congrArg (· % S) h3
  simp only[Nat.mul_mod_left]at this
  rw[Nat.add_comm,Nat.add_mul_mod_self_left,Nat.mod_mod]at this
  exact this.symm
 rw[h4,Nat.add_zero,Nat.mul_comm A]at h3
 have h5:=Nat.eq_of_mul_eq_mul_left hS h3
 have h6:R / S<B:=(Nat.div_lt_iff_lt_mul hS).2 hR
 constructor
 ·rw[h5,Nat.mul_comm,Nat.mul_add_div hB,Nat.div_eq_of_lt h6,Nat.add_zero]
 ·rw[h5,Nat.mul_comm,Nat.mul_add_mod,Nat.mod_eq_of_lt h6]
theorem L2{A S P D V X:Nat}(hA:A<D*P)(hS:S<=2147483648)(hV:2147483648*P<=V)(hX:X*D<=A*S)(hD:0<D)(hS0:0<S):X<V:=by
 have h1:A*S<D*V:=by
  have a1:A*S<D*P*S:=Nat.mul_lt_mul_of_pos_right hA hS0
  have a2:D*P*S<=D*V:=by
   have:P*S<=V:=by
    have:=Nat.mul_le_mul_left P hS
    rw[Nat.mul_comm P 2147483648]at this
    exact Nat.le_trans this hV
   rw[Nat.mul_assoc]
   exact Nat.mul_le_mul_left D this
  omega
 have h2:X*D<V*D:=by rw[Nat.mul_comm V]; exact Nat.lt_of_le_of_lt hX h1
 exact Nat.lt_of_mul_lt_mul_right h2
theorem Ww(a b:List Int)(ha:zu a)(hb:zu b)(la:a.length<=100000000)(n:Nat)(hbn:b.length=n+2)(hba:b.length<=a.length)(Ji:lm b (n+1)≠0) :
  (ou a b).run=some (zO (nv a / nv b),zO (nv a % nv b)):=by
 have ht:=uV hb (n+1)
 obtain⟨s,hs,Mn,hs2,hs3⟩:=Eh (x:=lm b (n+1)) (by omega) ht
 have z2V:2 ^ s<=2147483648:=by
  have:2 ^ s<=2 ^ 31:=Nat.pow_le_pow_right (by omega) (by omega)
  exact this
 have fI:0<2 ^ s:=Nat.pow_pos (by omega)
 have hBt:=z0d b n hbn
 -- the divisor
 have OY:nv b*2 ^ s<4294967296 ^ b.length:=by
  have h1:=zU b (n+1)
  rw[xr (by omega)]at h1
  have h2:=vZ hb (n+1)
  have h3:nv b<4294967296 ^ (n+1)*(lm b (n+1)+1):=by rw[h1,Nat.mul_add]; omega
  rw[hbn]
  have h4:(lm b (n+1)+1)*2 ^ s<=4294967296:=by
   have hm:4294967296=2 ^ (32-s)*2 ^ s:=k8 s (by omega)
   have h5:lm b (n+1)<2 ^ (32-s):=by
    rw[hm]at hs3
    exact Nat.lt_of_mul_lt_mul_right hs3
   have:=Nat.mul_le_mul_right (2 ^ s) (show lm b (n+1)+1<=2 ^ (32-s)from h5)
   rw[<- hm]at this; exact this
  have h5:nv b*2 ^ s<4294967296 ^ (n+1)*(lm b (n+1)+1)*2 ^ s:=Nat.mul_lt_mul_of_pos_right h3 fI
  have h6:4294967296 ^ (n+1)*(lm b (n+1)+1)*2 ^ s<=4294967296 ^ (n+2):=by
   rw[Nat.mul_assoc,Nat.pow_succ 4294967296 (n+1)]
   exact Nat.mul_le_mul_left _ h4
  exact Nat.lt_of_lt_of_le h5 h6
 obtain⟨d,hd,DY,Tx,hdv⟩:=fm b hb (by omega) s b.length Mn (Nat.le_refl _) (by omega) OY
 have z0E:nv a*2 ^ s<4294967296 ^ (a.length+1):=by
  have h1:=ZK ha
  rw[Nat.pow_succ]
  exact Nat.mul_lt_mul_of_lt_of_le h1 (Nat.le_trans z2V (by omega)) (by omega)
 obtain⟨u,hu,hul,hun,huv⟩:=fm a ha (by omega) s (a.length+1) Mn (by omega) (by omega) z0E
 -- eO highest limb
 have OT:2147483648<=lm d (n+1):=by
  have h1:=zU d (n+1)
  rw[xr (by omega),hdv]at h1
  have h2:=vZ DY (n+1)
  have h3:=zU b (n+1)
  rw[xr (by omega)]at h3
  have h4:4294967296 ^ (n+1)*(lm b (n+1)*2 ^ s)<=nv b*2 ^ s:=by
   rw[<- Nat.mul_assoc]
   exact Nat.mul_le_mul_right _ (by omega)
  have h5:4294967296 ^ (n+1)*2147483648<=nv b*2 ^ s:=Nat.le_trans (Nat.mul_le_mul_left _ hs2) h4
  have h6:4294967296 ^ (n+1)*2147483648<4294967296 ^ (n+1)*(lm d (n+1)+1):=by
   rw[Nat.mul_add]; omega
  have:=Nat.lt_of_mul_lt_mul_left h6
  omega
 have xm:nv (u.drop (a.length-(n+2)+1))<nv d:=by
  have h1:=yL u (a.length-(n+2)+1) (by omega)
  have h2:nv (u.drop (a.length-(n+2)+1))*4294967296 ^ (a.length-(n+2)+1)<=nv a*2 ^ s:=by
   rw[<- huv,h1,Nat.mul_comm]; omega
  have h3:2147483648*4294967296 ^ (n+1)<=nv d:=by
   have h4:=zU d (n+1)
   rw[xr (by omega)]at h4
   have h5:=Nat.mul_le_mul_left (4294967296 ^ (n+1)) OT
   rw[Nat.mul_comm 2147483648]; omega
  have h4:nv a<4294967296 ^ (a.length-(n+2)+1)*4294967296 ^ (n+1):=by
   rw[<- Nat.pow_add,show a.length-(n+2)+1+(n+1)=a.length by omega]
   exact ZK ha
  exact L2 h4 z2V h3 h2 (UB _) fI
 obtain⟨⟨xu,xq⟩,hr,hxu,hxun,hxq,hxqn,hxlt,Ku⟩:=D0 d DY a.length n (by omega) (by omega) (by omega) OT u hul (by omega) xm (s:Int)
 simp only at hxu hxun hxq hxqn hxlt Ku
 rw[huv,hdv]at Ku
 rw[hdv]at hxlt
 obtain⟨f1,f2⟩:=Fa fI Ku hxlt
 -- the text
 have e1:zZ ((b.length:Int)-1)=((n+1:Nat):Int):=by rw[zI (by omega) (by omega)]; omega
 have es:zS (s:Int)=s:=yl (by omega)
 have e2:zZ ((a.length:Int)+1)=((a.length+1:Nat):Int):=i1 _ (by omega)
 have e3:zZ (zZ ((a.length:Int)-((n+2:Nat):Int))+1)=((a.length-(n+2)+1:Nat):Int):=by rw[zI (x:=(a.length:Int)-((n+2:Nat):Int)) (by omega) (by omega),zI (by omega) (by omega)]; omega
 have e4:zZ (((a.length-(n+2)+1:Nat):Int)-1)=((a.length-(n+2):Nat):Int):=im1 _ (by omega)
 have e5:zZ (s:Int)=s:=zI (by omega) (by omega)
 have e6:zZ (0-(s:Int)) = -(s:Int):=by rw[zI (by omega) (by omega)]; omega
 unfold ou
 simp only[e1,e2,wB,uv hb]
 rw[qq _ (by omega) (by omega),z6 hs]
 simp only[es]
 rw[z6 hu,z6 hd]
 simp only[e3,e4,e5,e6,Int.toNat_natCast,List.length_replicate,Nat.zero_add,List.drop_zero,List.take_length,Tx,hbn]
 rw[T.run_mk _ (by omega) (by omega) (by omega) (by omega),zd rfl,zH _ rfl rfl rfl,zH _ rfl rfl rfl,zd rfl,zi]
 have z4C:d.take (n+2)=d:=List.take_of_length_le (by omega)
 simp only[z4C]
 rw[z6 hr]
 simp only[List.take_length]
 rw[zd rfl,zd rfl,z6 (xP xq hxq (by omega)),c9 _ (by omega) (by omega) (by omega)]
 have ec:vQ (e:=.int .u32) 0 ((n+2:Nat):Int) xu=xu.take (n+2):=by unfold vQ; simp only[Int.toNat_natCast,Int.toNat_zero,List.drop_zero]
 have SW:nv (xu.take (n+2))=nv xu:=by
  have h1:=yL xu (n+2) (by omega)
  have h2:=eU hxu (n+2) (by omega) (Nat.lt_trans hxlt (by rw[<- hbn]; exact OY))
  rw[h2]at h1; omega
 rw[ec]
 have hsh:(yn (xu.take (n+2)) (-(s:Int))).run=some (zO (nv xu / 2 ^ s)):=by
  rcases Nat.eq_zero_or_pos s with z | z
  ·subst z
   have:=Qs (xu.take (n+2)) (mj hxu _) (by simp; omega) 0 (by omega)
   rw[SW]at this
   simpa using this
  ·have:=QD (xu.take (n+2)) (mj hxu _) (by simp; omega) s (by omega) z
   rw[SW]at this
   exact this
 rw[z6 hsh,z7,f2,f1]
theorem NN{A:Nat}(k:Nat)(h:(zO A).length=k+1):lm (zO A) k≠0:=by
 intro hz
 have h1:=zU (zO A) k
 rw[xr (by omega),hz,Nat.mul_zero,Nat.add_zero,qf]at h1
 have h2:=vZ (zy A) k
 have:=zM.2 (show A<4294967296 ^ k by omega)
 omega
theorem kS(a b:List Int)(ha:zu a)(hb:zu b)(la:a.length<=100000000)(lb:b.length<=100000000) :
  (jX a b).run=some (if nv b=0 then([],[],false)else(zO (nv a / nv b),zO (nv a % nv b),true)):=by
 have qa:=q7 ha
 have qb:=q7 hb
 unfold jX
 rw[z6 (xP a ha (by omega)),z6 (xP b hb (by omega))]
 generalize nv a=A at *
 generalize nv b=B at *
 by_cases hB:B=0
 ·subst hB
  rw[qM]; simp
 ·have vP:(zO B).length≠0:=by
   intro h
   exact hB (wW.1 (List.eq_nil_of_length_eq_zero h))
  rw[if_neg hB,za (by simpa using vP),z6 (eT _ _ (zy A) (zy B) (by omega) (by omega)),qf,qf]
  by_cases qc:A<B
  ·rw[zc (by unfold Vb; rw[if_pos qc]; rfl),z6 (cn _ (zy A) (by omega)),z7,qf,Nat.div_eq_of_lt qc,Nat.mod_eq_of_lt qc,qM]
  ·rw[za (by unfold Vb; rw[if_neg qc]; split<;>simp)]
   by_cases h1:(zO B).length=1
   ·-- by one limb
    have GW:zO B=[(B:Int)]:=by
     rw[yz hB]at h1 ⊢
     have:B / 4294967296=0:=by
      have:(zO (B / 4294967296)).length=0:=by simpa using h1
      exact wW.1 (List.eq_nil_of_length_eq_zero this)
     rw[this,qM]
     congr 1; omega
    have hBl:B<4294967296:=by
     have:=zM.1 (Nat.le_of_eq h1)
     simpa using this
    have e0:nth (zO B) 0 0=(B:Int):=by rw[GW]; rfl
    have hm:=Nat.mod_lt A (Nat.pos_of_ne_zero hB)
    have hs:=lY (zO A) (zy A) (by omega) B (by omega) hBl
    rw[qf]at hs
    rw[zc (by rw[h1]; rfl),qq _ (by omega) (by omega)]
    simp only[wB,e0]
    rw[z6 hs]
    simp only[yl (show A % B<18446744073709551616 by omega)]
    rw[z6 (jV _ (by omega)),z7]
   ·obtain⟨n,hn⟩:∃ n,(zO B).length=n+2:=⟨(zO B).length-2,by omega⟩
    have hle:(zO B).length<=(zO A).length:=by
     rcases Nat.lt_or_ge (zO A).length (zO B).length with h | h
     ·exact absurd (p9 h) qc
     ·exact h
    have hl:=Ww (zO A) (zO B) (zy A) (zy B) (by omega) n hn hle (NN (n+1) (by omega))
    rw[qf,qf]at hl
    rw[za (by simp; omega),z6 hl,z7]
theorem rq(a b:List Int)(ha:zu a)(hb:zu b)(la:a.length<=100000000)(lb:b.length<=100000000):(nN a b).run=some (zO (Nat.gcd (nv a) (nv b))):=by
 have qa:=q7 ha
 have qb:=q7 hb
 unfold nN
 rw[z6 (cn a ha (by omega)),z6 (cn b hb (by omega))]
 generalize nv a=A at *
 generalize nv b=B at *
 have key:(ZU (zO A,zO B)).run=some (zO (Nat.gcd A B)):=by
  have:=kZ (r:=gS) (λs:List Int×List Int=>∃ A B:Nat,s=(zO A,zO B)/\(zO A).length<=100000000/\(zO B).length<=100000000)
   (λs=>nv s.2) (λs=>zO (Nat.gcd (nv s.1) (nv s.2))) ?_ (s:=(zO A,zO B)) ⟨A,B,rfl,by omega,by omega⟩
  ·rw[qf,qf]at this; exact this
  ·rintro _ ⟨A,B,rfl,hA,hB'⟩
   simp only[qf]
   by_cases hB:B=0
   ·right
    subst hB
    unfold gS
    rw[qM]; simp
   ·left
    have hd:=kS (zO A) (zO B) (zy A) (zy B) hA hB'
    rw[qf,qf,if_neg hB]at hd
    have hm:=Nat.mod_lt A (Nat.pos_of_ne_zero hB)
    have vP:(zO B).length≠0:=λh=>hB (wW.1 (List.eq_nil_of_length_eq_zero h))
    refine⟨(zO B,zO (A % B)),?_,⟨B,A % B,rfl,hB',?_⟩,by simpa using hm,?_⟩
    ·unfold gS
     rw[zc (by simp; omega),z6 hd,z7]
    ·have:(zO (A % B)).length<=(zO B).length:=zM.2 (Nat.lt_trans hm (zM.1 (Nat.le_refl _)))
     omega
    ·simp only[qf]
     rw[Nat.gcd_comm,<- Nat.gcd_rec,Nat.gcd_comm]
 rw[z6 key,z7]
theorem Fi:zu [(1:Int)]:=by
 intro x hx; simp at hx; omega
end Go.AM.Lf
namespace Go.AM.PL
def Sj(n:Nat):UInt8:=UInt8.ofNat (48+n % 10)
def Fs(n:Nat):zf:=if h:n=0 then[]else Fs (n / 10)++[Sj n]
termination_by n
decreasing_by omega
def pr(n:Nat):zf:=if n=0 then[48]else Fs n
theorem nI:Fs 0=[]:=by rw[Fs]; rfl
theorem sK{n:Nat}(h:n≠0):Fs n=Fs (n / 10)++[Sj n]:=by rw[Fs,dif_neg h]
def rd(n:Nat):List Int:=if h:n=0 then[]else((48+n % 10:Nat):Int)::rd (n / 10)
termination_by n
decreasing_by omega
theorem lz:rd 0=[]:=by rw[rd]; rfl
theorem tK{n:Nat}(h:n≠0):rd n=((48+n % 10:Nat):Int)::rd (n / 10):=by rw[rd,dif_neg h]
def dI:Nat->Nat->List Int
 | 0,_=>[]
 | k+1,n=>((48+n % 10:Nat):Int)::dI k (n / 10)
theorem nC(k n:Nat):(dI k n).length=k:=by
 induction k generalizing n with
 | zero=>rfl
 | succ k ih=>simp[dI,ih]
theorem L3(k n:Nat):dI k (n % 10 ^ k)=dI k n:=by
 induction k generalizing n with
 | zero=>rfl
 | succ k ih =>
  simp only[dI]
  have e1:n % 10 ^ (k+1) % 10=n % 10:=Nat.mod_mod_of_dvd _ ⟨10 ^ k,by rw[Nat.pow_succ,Nat.mul_comm]⟩
  have e2:n % 10 ^ (k+1) / 10=n / 10 % 10 ^ k:=by rw[Nat.pow_succ,Nat.mul_comm,Nat.mod_mul_right_div_self]
  rw[e1,e2,ih]
theorem IN(k n:Nat)(h:n / 10 ^ k≠0):rd n=dI k n++rd (n / 10 ^ k):=by
 induction k generalizing n with
 | zero=>simp[dI]
 | succ k ih =>
  have hn:n≠0:=by intro z; subst z; simp at h
  have e:n / 10 ^ (k+1)=n / 10 / 10 ^ k:=by rw[Nat.pow_succ,Nat.mul_comm,Nat.div_div_eq_div_mul]
  rw[e]at h ⊢
  rw[tK hn,ih _ h]; rfl
theorem KB(k n:Nat)(h:n / 10 ^ k=0):∃ z,dI k n=rd n++List.replicate z 48:=by
 induction k generalizing n with
 | zero=>simp at h; subst h; exact⟨0,by rw[lz]; rfl⟩
 | succ k ih =>
  have e:n / 10 ^ (k+1)=n / 10 / 10 ^ k:=by rw[Nat.pow_succ,Nat.mul_comm,Nat.div_div_eq_div_mul]
  rw[e]at h
  obtain⟨z,hz⟩:=ih _ h
  simp only[dI]
  by_cases hn:n=0
  ·subst hn
   refine⟨z+1,?_⟩
   rw[hz]
   simp[lz,List.replicate_succ]
  ·exact⟨z,by rw[hz,tK hn]; rfl⟩
def blk(n:Nat):List Int:=if h:n=0 then[]else dI 9 (n % 1000000000)++blk (n / 1000000000)
termination_by n
decreasing_by omega
theorem cy:blk 0=[]:=by rw[blk]; rfl
theorem sM{n:Nat}(h:n≠0):blk n=dI 9 (n % 1000000000)++blk (n / 1000000000):=by rw[blk,dif_neg h]
theorem Fc(n:Nat):∃ z,blk n=rd n++List.replicate z 48:=by
 induction n using Nat.strongRecOn with
 | _ n ih =>
  by_cases hn:n=0
  ·subst hn; exact⟨0,by rw[cy,lz]; rfl⟩
  ·rw[sM hn]
   have e:dI 9 (n % 1000000000)=dI 9 n:=L3 9 n
   rw[e]
   by_cases h:n / 1000000000=0
   ·rw[h,cy,List.append_nil]
    exact KB 9 n h
   ·obtain⟨z,hz⟩:=ih (n / 1000000000) (by omega)
    refine⟨z,?_⟩
    rw[hz,<- List.append_assoc]
    congr 1
    exact(IN 9 n h).symm
theorem EK(n:Nat):Fs n=xy (rd n).reverse:=by
 induction n using Nat.strongRecOn with
 | _ n ih =>
  by_cases hn:n=0
  ·subst hn; rw[nI,lz]; rfl
  ·rw[sK hn,tK hn,ih _ (by omega)]
   simp only[List.reverse_cons,xy,List.map_append,List.map_cons,List.map_nil]
   congr 1
theorem Ph{n:Nat}(h:n≠0):rd n≠[]:=by rw[tK h]; simp
theorem MX(n:Nat):∀ x,(rd n).getLast? = some x->x≠48:=by
 induction n using Nat.strongRecOn with
 | _ n ih =>
  intro x hx
  by_cases hn:n=0
  ·subst hn; rw[lz]at hx; cases hx
  ·rw[tK hn]at hx
   by_cases h2:n / 10=0
   ·rw[h2,lz]at hx
    simp at hx; omega
   ·refine ih (n / 10) (by omega) x ?_
    rw[<- hx]
    cases hc:rd (n / 10)with
    | nil=>exact absurd hc (Ph h2)
    | cons y l=>rw[List.getLast?_cons_cons]
end Go.AM.PL
namespace Go.AM.Lf
open PL
@[simp] theorem Wc:zq (.int .u8)=(0:Int):=rfl
theorem BQ:([48,49,50,51,52,53,54,55,56,57]:zf).length=10:=rfl
theorem N5(r:Nat):qz ([48,49,50,51,52,53,54,55,56,57]:zf) ((r % 10:Nat):Int)=((48+r % 10:Nat):Int):=by
 have key:∀ d:Fin 10,qz ([48,49,50,51,52,53,54,55,56,57]:zf) ((d.val:Nat):Int)=((48+d.val:Nat):Int):=by decide
 exact key ⟨r % 10,by omega⟩
theorem BE(q:List Int)(rest:Nat)(hr:rest<4294967296)(xs:List Int)(hx:xs.length<=1000000000):(dP q ((rest:Int),0,xs)).run=some (xs++dI 9 rest):=by
 have:=kZ (r:=y9 q) (λs:Int×Int×List Int=>∃ (r k:Nat),s.1=(r:Int)/\r<4294967296/\s.2.1=(k:Int)/\k<=9/\s.2.2.length<=1000000000+k)
  (λs=>9-s.2.1.toNat) (λs=>s.2.2++dI (9-s.2.1.toNat) s.1.toNat) ?_ (s:=((rest:Int),0,xs)) ⟨rest,0,rfl,hr,rfl,by omega,by omega⟩
 ·unfold dP
  simpa using this
 ·rintro⟨_,_,ys⟩ ⟨r,k,rfl,h1,rfl,h2,h3⟩
  simp only at h3 ⊢
  by_cases hk:k<9
  ·left
   have e1:Int.tmod (r:Int) 10=((r % 10:Nat):Int):=by rw[eP (by omega)]; rfl
   have e2:vv (Int.tdiv (r:Int) 10)=((r / 10:Nat):Int):=by rw[fY (by omega)]; exact r7 (n:=r / 10) (by omega)
   refine⟨(((r / 10:Nat):Int),((k+1:Nat):Int),ys++[((48+r % 10:Nat):Int)]),?_,⟨r / 10,k+1,rfl,by omega,rfl,by omega,by simp; omega⟩,by simp; omega,?_⟩
   ·unfold y9
    simp only[e1,e2,N5,i1 k (by omega),BQ]
    rw[zc (by simp; omega)]
    simp(disch:=omega) [oI]
   ·simp only[Int.toNat_natCast]
    rw[show 9-k=(9-(k+1))+1 by omega,dI]
    simp
  ·right
   have:k=9:=by omega
   subst this
   unfold y9
   simp[dI]
theorem WZ(n j:Nat)(h:n<4294967296 ^ j):(blk n).length<=18*j:=by
 induction j generalizing n with
 | zero =>
  have:n=0:=by simpa using h
  subst this; rw[cy]; simp
 | succ j ih =>
  by_cases hn:n=0
  ·subst hn; rw[cy]; simp
  ·rw[sM hn]
   by_cases h2:n / 1000000000=0
   ·rw[h2,cy]; simp[nC]; omega
   ·rw[sM h2]
    have h3:n / 1000000000 / 1000000000<4294967296 ^ j:=by
     rw[Nat.div_div_eq_div_mul,Nat.div_lt_iff_lt_mul (by omega)]
     rw[Nat.pow_succ]at h
     exact Nat.lt_of_lt_of_le h (Nat.mul_le_mul_left _ (by omega))
    have:=ih _ h3
    simp[nC]; omega
theorem YY(n:Nat)(hn:(zO n).length<=1000000):(da (zO n,[])).run=some (blk n):=by
 have hbl:=WZ n (zO n).length (zM.1 (Nat.le_refl _))
 have:=kZ (r:=kV) (λs:List Int×List Int=>∃ m:Nat,s.1=zO m/\(zO m).length<=1000000/\s.2.length+(blk m).length<=18000000)
  (λs=>nv s.1) (λs=>s.2++blk (nv s.1)) ?_ (s:=(zO n,[])) ⟨n,rfl,hn,by simp; omega⟩
 ·unfold da
  simpa using this
 ·rintro⟨_,xs⟩ ⟨m,rfl,h1,h2⟩
  simp only[qf]at h2 ⊢
  by_cases hm:m=0
  ·right
   subst hm
   unfold kV
   rw[qM,cy]; simp
  ·left
   have vP:(zO m).length≠0:=λh=>hm (wW.1 (List.eq_nil_of_length_eq_zero h))
   have hs:(gP (zO m) 1000000000).run=some (zO (nv (zO m) / 1000000000),((nv (zO m) % 1000000000:Nat):Int)):=lY (zO m) (zy m) (by omega) 1000000000 (by omega) (by omega)
   rw[qf]at hs
   have MY:=sM hm
   have hl:=congrArg List.length MY
   rw[List.length_append,nC]at hl
   have hg:=BE (zO (m / 1000000000)) (m % 1000000000) (by omega) xs (by omega)
   have hlen:(zO (m / 1000000000)).length<=(zO m).length:=zM.2 (Nat.lt_of_le_of_lt (Nat.div_le_self _ _) (zM.1 (Nat.le_refl _)))
   refine⟨(zO (m / 1000000000),xs++dI 9 (m % 1000000000)),?_,⟨m / 1000000000,rfl,by omega,?_⟩,?_,?_⟩
   ·unfold kV
    rw[zc (by simp; omega),z6 hs]
    simp only
    rw[zH _ rfl rfl rfl,zd rfl,z6 hg,zH _ rfl rfl rfl,zd rfl,z7]
   ·simp only[List.length_append,nC]; omega
   ·simp only[qf]; omega
   ·simp only[qf]
    rw[MY,List.append_assoc]
theorem CW(l:List Int)(z:Nat)(hl:l≠[])(Tw:∀ x,l.getLast? = some x->x≠48)(hn:l.length+z<=100000000) :
  (ox ((0,(l++List.replicate z 48).length),l++List.replicate z 48)).run=some ((0,l.length),l++List.replicate z 48):=by
 generalize hX:l++List.replicate z 48=X
 have hXl:X.length=l.length+z:=by rw[<- hX]; simp
 have oa:0<l.length:=List.length_pos_iff.2 hl
 have CX:∀ p:Nat,kR X p 0=if p<l.length then kR l p 0 else if p<l.length+z then 48 else 0:=by
  intro p
  unfold kR
  rw[<- hX,List.getD_eq_getElem?_getD,List.getD_eq_getElem?_getD]
  by_cases h:p<l.length
  ·rw[if_pos h,List.getElem?_append_left h]
  ·rw[if_neg h,List.getElem?_append_right (by omega),List.getElem?_replicate]
   by_cases h2:p<l.length+z
   ·rw[if_pos h2,if_pos (by omega)]; rfl
   ·rw[if_neg h2,if_neg (by omega)]; rfl
 have:=kZ (r:=kF) (λs:(Nat×Nat)×List Int=>∃ k:Nat,s.1=(0,l.length+k)/\k<=z/\s.2=X) (λs=>s.1.2) (λ_=>((0,l.length),X)) ?_ (s:=((0,X.length),X)) ⟨z,by rw[hXl],Nat.le_refl _,rfl⟩
 ·exact this
 ·rintro⟨w,y⟩ ⟨k,h1,hk,h2⟩
  simp only at h1 h2
  rw[h1,h2]
  have e1:zZ (((l.length+k:Nat):Int)-1)=((l.length+k-1:Nat):Int):=by rw[zI (by omega) (by omega)]; omega
  have hg:=CX (l.length+k-1)
  cases k with
  | zero =>
   right
   have Pq:kR l (l.length-1) 0≠48:=by
    refine Tw _ ?_
    rw[List.getLast?_eq_getElem?]
    unfold kR
    rw[List.getD_eq_getElem?_getD,List.getElem?_eq_getElem (by omega)]; rfl
   rw[Nat.add_zero]at hg
   rw[if_pos (by omega)]at hg
   unfold kF
   simp only[Nat.add_zero]at e1 ⊢
   simp only[e1,Int.toNat_natCast,Nat.zero_add,Wc,hg]
   rw[zd (λ_=>⟨⟨by omega,by omega⟩,⟨rfl,by omega⟩⟩),za (by simp[Pq]),zd rfl,zd rfl,z7]
  | succ k =>
   left
   rw[show l.length+(k+1)-1=l.length+k by omega]at e1 hg
   rw[if_neg (by omega),if_pos (by omega)]at hg
   refine⟨((0,l.length+k),X),?_,⟨k,rfl,by omega,rfl⟩,by simp,rfl⟩
   unfold kF
   simp only[e1,Int.toNat_natCast,Nat.zero_add,Wc,hg]
   rw[zd (λ_=>⟨⟨by omega,by omega⟩,⟨rfl,by omega⟩⟩),zc (by simp; omega),c9 _ (by omega) (by omega) (by omega),zd rfl,zd rfl,z7]
   simp
theorem Jz(xs:List Int)(n:Nat)(hn:n<=xs.length)(hx:xs.length<=1000000000):∃ ys:List Int,(w9 (0,n) xs).run=some ys/\ys.length=xs.length/\ys.take n=(xs.take n).reverse:=by
 have e0:zZ ((n:Int)-1)=(n:Int)-1:=zI (by omega) (by omega)
 have loop:∃ ys:List Int,(uA ((0,n),0,(n:Int)-1,xs)).run=some ys/\ys.length=xs.length/\∀ p,p<n->ys[p]? = xs[n-1-p]? := by
  refine T.xW (λs:(Nat×Nat)×Int×Int×List Int=>s.1=(0,n)/\∃ i:Nat,s.2.1=(i:Int)/\s.2.2.1=(n:Int)-1-(i:Int)/\i<=n/\s.2.2.2.length=xs.length/\2*i<=n+1/\∀ p,p<n->s.2.2.2[p]? = if p<i\/n<p+i+1 then xs[n-1-p]? else xs[p]?)
   (λs=>n-s.2.1.toNat) _ ?_ ⟨rfl,0,rfl,by simp,by omega,rfl,by omega,λp hp=>by rw[if_neg (by omega)]⟩
  rintro⟨_,_,_,zs⟩ ⟨rfl,i,rfl,rfl,hi,hl,h2i,hv⟩
  simp only at hl hv ⊢
  by_cases qc:(i:Int)<(n:Int)-1-(i:Int)
  ·left
   have hj:((n:Int)-1-(i:Int)).toNat=n-1-i:=by omega
   have ej:zZ ((n:Int)-1-(i:Int)-1)=(n:Int)-1-((i+1:Nat):Int):=by rw[zI (by omega) (by omega)]; omega
   refine⟨((0,n),((i+1:Nat):Int),(n:Int)-1-((i+1:Nat):Int),(zs.set i (kR zs (n-1-i) 0)).set (n-1-i) (kR zs i 0)),?_,⟨rfl,i+1,rfl,rfl,by omega,by simpa using hl,by omega,?_⟩,by simp; omega⟩
   ·unfold xx
    simp only[hj,Int.toNat_natCast,Nat.zero_add,Wc,i1 i (by omega),ej]
    rw[zc (decide_eq_true qc),qq _ (by omega) (by omega),jv _ rfl (by omega),qq _ (by omega) (by omega),jv _ rfl (by omega),qq _ (by omega) (by omega),jv _ rfl (by omega),qq _ (by omega) (by omega),jv _ (by simp) (by simp; omega),zd rfl,wZ _ (by simp),z7]
   ·intro p hp
    have g1:=hv i (by omega)
    have g2:=hv (n-1-i) (by omega)
    rw[if_neg (by omega)]at g1 g2
    simp only[List.getElem?_set,List.length_set]
    by_cases c1:n-1-i=p
    ·rw[if_pos c1,if_pos (by omega),if_pos (by omega)]
     unfold kR
     rw[List.getD_eq_getElem?_getD,g1,<- c1,show n-1-(n-1-i)=i by omega,List.getElem?_eq_getElem (by omega)]; rfl
    ·rw[if_neg c1]
     by_cases c2:i=p
     ·rw[if_pos c2,if_pos (by omega),if_pos (by omega)]
      unfold kR
      rw[List.getD_eq_getElem?_getD,g2,<- c2,List.getElem?_eq_getElem (by omega)]; rfl
     ·rw[if_neg c2,hv p hp]
      by_cases c3:p<i\/n<p+i+1
      ·rw[if_pos c3,if_pos (by omega)]
      ·rw[if_neg c3,if_neg (by omega)]
  ·right
   refine⟨zs,?_,hl,λp hp => ?_⟩
   ·unfold xx
    rw[za (decide_eq_false qc),wZ _ rfl,z7]
   ·rw[hv p hp]
    split
    ·rfl
    ·rw[show n-1-p=p by omega]
 obtain⟨ys,hr,hl,hv⟩:=loop
 refine⟨ys,?_,hl,?_⟩
 ·unfold w9
  rw[wZ _ rfl,wZ _ rfl,e0,z6 hr,wZ _ rfl,z7]
 ·apply List.ext_getElem?
  intro p
  by_cases hp:p<n
  ·have dF:(xs.take n).length=n:=by simp; omega
   rw[List.getElem?_take,if_pos hp,hv p hp,List.getElem?_reverse (by omega),dF,List.getElem?_take,if_pos (by omega)]
  ·rw[List.getElem?_eq_none (by simp; omega),List.getElem?_eq_none (by simp; omega)]
theorem cb(a:List Int)(ha:zu a)(la:a.length<=1000000):(gO a).run=some (pr (nv a)):=by
 have qa:=q7 ha
 unfold gO
 rw[z6 (cn a ha (by omega))]
 generalize nv a=n at *
 by_cases hn:n=0
 ·subst hn; rw[qM]; simp[pr]
 ·have vP:(zO n).length≠0:=λh=>hn (wW.1 (List.eq_nil_of_length_eq_zero h))
  rw[za (by simpa using vP),zH _ rfl rfl rfl,wZ _ rfl,z6 (YY n (by omega))]
  have hbl:=WZ n (zO n).length (zM.1 (Nat.le_refl _))
  obtain⟨z,hz⟩:=Fc n
  have hzl:=congrArg List.length hz
  rw[List.length_append,List.length_replicate]at hzl
  have xm:=CW (rd n) z (Ph hn) (MX n) (by omega)
  rw[<- hz]at xm
  obtain⟨ys,hr,hl,hv⟩:=Jz (blk n) (rd n).length (by omega) (by omega)
  rw[wZ _ rfl,wZ _ rfl,z6 xm]
  simp only[zi]
  rw[zd rfl,zd rfl,z6 hr,wZ _ hl.symm,z7]
  simp only[Nat.zero_add,List.drop_zero]
  rw[hv,hz,List.take_left,<- EK]
  unfold pr
  rw[if_neg hn]
def jz(neg:Bool)(n d:Nat):Rat:=if n=0\/d=0 then(false,[],[1],())else(neg,zO (n / Nat.gcd n d),zO (d / Nat.gcd n d),())
def jo(k:Nat)(a:Rat):Prop:=zu a.2.1/\zu a.2.2.1/\a.2.1.length<=k/\a.2.2.1.length<=k
theorem ow:zO 1=[1]:=by rw[yz (by omega),show 1 / 4294967296=0 from rfl,qM]; rfl
theorem gy{m n:Nat}(h:m<=n):(zO m).length<=(zO n).length:=zM.2 (Nat.lt_of_le_of_lt h (zM.1 (Nat.le_refl _)))
theorem GM(neg:Bool)(n d k:Nat)(hk:1<=k)(hn:(zO n).length<=k)(hd:(zO d).length<=k):jo k (jz neg n d):=by
 unfold jz
 split
 ·exact⟨iZ,Fi,by simp,by simpa using hk⟩
 ·exact⟨zy _,zy _,Nat.le_trans (gy (Nat.div_le_self _ _)) hn,Nat.le_trans (gy (Nat.div_le_self _ _)) hd⟩
theorem ml(neg:Bool)(n d:List Int)(hn:zu n)(hd:zu d)(ln:n.length<=100000000)(ld:d.length<=100000000):(dh neg n d).run=some (jz neg (nv n) (nv d)):=by
 have qn:=q7 hn
 have qd:=q7 hd
 unfold dh
 rw[z6 (cn n hn (by omega)),z6 (cn d hd (by omega))]
 generalize nv n=N at *
 generalize nv d=D at *
 unfold jz
 by_cases h:N=0\/D=0
 ·rw[if_pos h]
  have e:(((zO N).length:Int)==0||((zO D).length:Int)==0)=true:=by
   rcases h with rfl | rfl<;>simp[qM]
  have h1:(jS 1).run=some (zO 1):=jV 1 (by omega)
  rw[zc e,z6 h1,z7,ow]
 ·rw[if_neg h]
  have hN:N≠0:=λz=>h (.inl z)
  have hD:D≠0:=λz=>h (.inr z)
  have n1:(zO N).length≠0:=λh=>hN (wW.1 (List.eq_nil_of_length_eq_zero h))
  have n2:(zO D).length≠0:=λh=>hD (wW.1 (List.eq_nil_of_length_eq_zero h))
  have e:(((zO N).length:Int)==0||((zO D).length:Int)==0)=false:=by rw[Bool.or_eq_false_iff]; exact⟨by simpa using n1,by simpa using n2⟩
  have hg:=rq (zO N) (zO D) (zy N) (zy D) (by omega) (by omega)
  rw[qf,qf]at hg
  have hgp:Nat.gcd N D≠0:=λz=>hN (Nat.gcd_eq_zero_iff.1 z).1
  have Pq:(zO (Nat.gcd N D)).length<=100000000:=Nat.le_trans (gy (Nat.gcd_le_left D (Nat.pos_of_ne_zero hN))) (by omega)
  have h1:=kS (zO N) (zO (Nat.gcd N D)) (zy N) (zy _) (by omega) Pq
  have h2:=kS (zO D) (zO (Nat.gcd N D)) (zy D) (zy _) (by omega) Pq
  rw[qf,qf,if_neg hgp]at h1 h2
  rw[za e,z6 hg,z6 h1]
  simp only
  rw[z6 h2,z7]
theorem WL(a:Rat)(h:jo 100000000 a):(hO a).run=some (jz a.1 (nv a.2.1) (nv a.2.2.1)):=by
 unfold hO
 rw[z6 (ml _ _ _ h.1 h.2.1 h.2.2.1 h.2.2.2),z7]
theorem og(k:Nat):(zO (10 ^ k)).length<=k+1:=by
 refine zM.2 ?_
 have h1:(10:Nat) ^ k<=4294967296 ^ k:=Nat.pow_le_pow_left (by omega) k
 have h2:(4294967296:Nat) ^ k<4294967296 ^ (k+1):=Nat.pow_lt_pow_right (by omega) (by omega)
 omega
theorem LH(m n:Nat):(zO (m*n)).length<=(zO m).length+(zO n).length:=by
 refine zM.2 ?_
 rw[Nat.pow_add]
 exact Nat.mul_lt_mul'' (zM.1 (Nat.le_refl _)) (zM.1 (Nat.le_refl _))
theorem fc(k:Nat)(hk:k<=10000):(iJ (k:Int)).run=some (zO (10 ^ k)):=by
 have h1:(jS 1).run=some (zO 1):=jV 1 (by omega)
 have SJ:(jS 10).run=some (zO 10):=jV 10 (by omega)
 have loop:=kZ (r:=bc (k:Int)) (λs:List Int×Int=>∃ i:Nat,s=(zO (10 ^ i),(i:Int))/\i<=k) (λs=>k-s.2.toNat) (λ_=>zO (10 ^ k)) ?_ (s:=(zO 1,0)) ⟨0,rfl,by omega⟩
 ·have F0:(ta (k:Int) (zO 1,0)).run=some (zO (10 ^ k)):=loop
  unfold iJ
  rw[z6 h1,z6 F0,z7]
 ·rintro _ ⟨i,rfl,hi⟩
  simp only
  by_cases qc:i<k
  ·left
   have hl:=og i
   have hm:=fM (zO (10 ^ i)) (zO 10) (zy _) (zy _) (by omega) (by have:=og 1; simp at this; omega)
   rw[qf,qf,<- Nat.pow_succ]at hm
   refine⟨(zO (10 ^ (i+1)),((i+1:Nat):Int)),?_,⟨i+1,rfl,by omega⟩,by simp; omega,trivial⟩
   unfold bc
   rw[zc (by simp; omega),z6 SJ,z6 hm,z7,i1 i (by omega)]
  ·right
   have:i=k:=by omega
   subst this
   unfold bc
   simp
theorem IY(n d:Nat)(h:Nat.gcd n d≠0):Nat.gcd (n / Nat.gcd n d) (d / Nat.gcd n d)=1:=by
 have:=Nat.gcd_mul_left (Nat.gcd n d) (n / Nat.gcd n d) (d / Nat.gcd n d)
 rw[Nat.mul_div_cancel' (Nat.gcd_dvd_left n d),Nat.mul_div_cancel' (Nat.gcd_dvd_right n d)]at this
 have h2:Nat.gcd n d*Nat.gcd (n / Nat.gcd n d) (d / Nat.gcd n d)=Nat.gcd n d*1:=by omega
 exact Nat.eq_of_mul_eq_mul_left (Nat.pos_of_ne_zero h) h2
theorem C7(neg:Bool)(n d:Nat):jz (jz neg n d).1 (nv (jz neg n d).2.1) (nv (jz neg n d).2.2.1)=jz neg n d:=by
 by_cases h:n=0\/d=0
 ·have e:jz neg n d=(false,[],[1],()):=by unfold jz; rw[if_pos h]
  rw[e]; rfl
 ·have e:jz neg n d=(neg,zO (n / Nat.gcd n d),zO (d / Nat.gcd n d),()):=by unfold jz; rw[if_neg h]
  rw[e]
  have hn:n≠0:=λz=>h (.inl z)
  have hd:d≠0:=λz=>h (.inr z)
  have hg:Nat.gcd n d≠0:=λz=>hn (Nat.gcd_eq_zero_iff.1 z).1
  have h1:n / Nat.gcd n d≠0:=Nat.div_ne_zero_iff.2 ⟨hg,Nat.gcd_le_left d (Nat.pos_of_ne_zero hn)⟩
  have h2:d / Nat.gcd n d≠0:=Nat.div_ne_zero_iff.2 ⟨hg,Nat.gcd_le_right n (Nat.pos_of_ne_zero hd)⟩
  simp only[qf]
  unfold jz
  rw[if_neg (by intro z; rcases z with z | z<;>contradiction),IY n d hg,Nat.div_one,Nat.div_one]
theorem VQ(neg:Bool)(n d:Nat):nv (jz neg n d).2.2.1≠0:=by
 unfold jz
 split
 ·show nv [1]≠0; decide
 ·rename_i h
  have hn:n≠0:=λz=>h (.inl z)
  have hd:d≠0:=λz=>h (.inr z)
  have hg:Nat.gcd n d≠0:=λz=>hn (Nat.gcd_eq_zero_iff.1 z).1
  simp only[qf]
  exact Nat.div_ne_zero_iff.2 ⟨hg,Nat.gcd_le_right n (Nat.pos_of_ne_zero hd)⟩
theorem Zu{j k:Nat}{a:Rat}(h:jo j a)(hk:j<=k):jo k a:=⟨h.1,h.2.1,Nat.le_trans h.2.2.1 hk,Nat.le_trans h.2.2.2 hk⟩
def norm(a:Rat):Rat:=jz a.1 (nv a.2.1) (nv a.2.2.1)
theorem su{k:Nat}(hk:1<=k){a:Rat}(h:jo k a):jo k (norm a):=GM _ _ _ k hk (Nat.le_trans (q7 h.1) h.2.2.1) (Nat.le_trans (q7 h.2.1) h.2.2.2)
theorem tV(a:Rat)(h:jo 100000000 a):(hO a).run=some (norm a):=WL a h
end Go.AM.Lf
namespace Go.AM.PL
abbrev Q:=_root_.Rat
def qv(neg:Bool)(n d:Nat):Q:=mkRat (if neg=true then -(n:Int)else(n:Int)) d
theorem P0:zO 1=[1]:=by rw[yz (by omega),show 1 / 4294967296=0 from rfl,qM]; rfl
theorem sZ{m n:Nat}(h:m<=n):(zO m).length<=(zO n).length:=zM.2 (Nat.lt_of_le_of_lt h (zM.1 (Nat.le_refl _)))
theorem rD(m n:Nat):(zO (m*n)).length<=(zO m).length+(zO n).length:=by
 rw[zM,Nat.pow_add]
 have h1:=zM.1 (Nat.le_refl (zO m).length)
 have h2:=zM.1 (Nat.le_refl (zO n).length)
 exact Nat.mul_lt_mul'' h1 h2
end Go.AM.PL
namespace Go.AM.Lf
open PL
def val(a:Rat):Q:=qv a.1 (nv a.2.1) (nv a.2.2.1)
def DZ(b:Bool):zf:=if b=true then[45]else[]
def Le(s:zf)(n:Nat):zf:=if n=0 then s else
 (bB [48] (n+1-s.length)++s).take ((bB [48] (n+1-s.length)++s).length-n)++[46]++(bB [48] (n+1-s.length)++s).drop ((bB [48] (n+1-s.length)++s).length-n)
theorem tQ(k:Nat):(bB [48] k).length=k:=by
 induction k with
 | zero=>rfl
 | succ k ih=>simp[bB,ih]
theorem bA(s:zf)(l h:Nat):um (l:Int) (h:Int) s=(s.take h).drop l:=by unfold um; simp
theorem JV(s:zf)(n:Nat)(hn:n<=1000)(hs:s.length<=1000000000):(bG s (n:Int)).run=some (Le s n):=by
 unfold bG Le
 by_cases h:n=0
 ·subst h; rw[zc (by rfl),z7,if_pos rfl]
 ·rw[za (by simp; omega),if_neg h]
  have e1:pz 0 (zZ (zZ ((n:Int)+1)-(s.length:Int)))=((n+1-s.length:Nat):Int):=by
   rw[i1 n (by omega),zI (by omega) (by omega)]; unfold pz; split<;>omega
  have z6w:(strings_Repeat [48] ((n+1-s.length:Nat):Int)).run=some (bB [48] (n+1-s.length)):=by
   unfold strings_Repeat
   rw[zd ⟨by omega,by omega,by simp; omega⟩,z7,Int.toNat_natCast]
  rw[e1,z6 z6w]
  have hl:=tQ (n+1-s.length)
  simp only[cat]
  generalize hR:bB [48] (n+1-s.length)++s=t
  have htl:t.length=(n+1-s.length)+s.length:=by rw[<- hR,List.length_append,hl]
  have e2:zZ ((t.length:Int)-(n:Int))=((t.length-n:Nat):Int):=by rw[zI (by omega) (by omega)]; omega
  have c0:um 0 ((t.length-n:Nat):Int) t=t.take (t.length-n):=by have:=bA t 0 (t.length-n); simpa using this
  have c1:um ((t.length-n:Nat):Int) (t.length:Int) t=t.drop (t.length-n):=by rw[bA,List.take_length]
  simp only[e2,c0,c1]
  rw[zP _ (by omega),c9 _ (by omega) (by omega) (by omega),zP _ (by simp; omega),c9 _ (by omega) (by omega) (by omega),zP _ (by simp; omega),z7]
theorem Jl(a:Rat):(fh a).run=some (DZ a.1):=by
 unfold fh DZ; rw[nq]; split<;>rfl
theorem WR(b:Bool):(DZ b).length<=1:=by unfold DZ; split<;>simp
theorem mD(n k:Nat)(h:(zO n).length<=k):(pr n).length<=18*k+1:=by
 unfold pr
 split
 ·simp
 ·obtain⟨z,hz⟩:=Fc n
  have h1:=WZ n k (zM.1 h)
  have h2:=congrArg List.length hz
  rw[List.length_append]at h2
  rw[EK]
  simp only[xy,List.length_map,List.length_reverse]
  omega
theorem O2(s:zf)(n:Nat):(Le s n).length<=s.length+n+2:=by
 unfold Le
 split
 ·omega
 ·have:=tQ (n+1-s.length)
  simp[this]; omega
def xV(neg:Bool)(N D:Nat):Nat->Nat->zf×Bool
 | _,0=>([],false)
 | k,f+1=>if N*10 ^ k % D=0 then(DZ neg++Le (pr (N*10 ^ k / D)) k,true)else xV neg N D (k+1) f
theorem nR(n:Nat):(((zO n).length:Int)==0)=decide (n=0):=by
 by_cases c:n=0
 ·subst c; rw[qM]; rfl
 ·have:(zO n).length≠0:=λh=>c (wW.1 (List.eq_nil_of_length_eq_zero h))
  rw[decide_eq_false c]; simpa using this
theorem lT(a:Rat)(h:jo 1000 a):(cz a).run=some (xV (norm a).1 (nv (norm a).2.1) (nv (norm a).2.2.1) 0 61):=by
 have ya:=su (by omega) h
 have hD:=VQ a.1 (nv a.2.1) (nv a.2.2.1)
 have hrn:=tV a (Zu h (by omega))
 unfold cz
 rw[z6 hrn]
 change nv (norm a).2.2.1≠0 at hD
 clear hrn
 generalize norm a=v at *
 obtain⟨hn,hd,ln,ld⟩:=ya
 have loop:=kZ (r:=j4) (λs:Int×Rat=>∃ k:Nat,s=((k:Int),v)/\k<=61) (λs=>61-s.1.toNat)
  (λs=>if(xV v.1 (nv v.2.1) (nv v.2.2.1) s.1.toNat (61-s.1.toNat)).2=true then .inr ((xV v.1 (nv v.2.1) (nv v.2.2.1) s.1.toNat (61-s.1.toNat)).1,true,v)else .inl v) ?_ (s:=(0,v)) ⟨0,rfl,by omega⟩
 ·have F0:(ov (0,v)).run=_:=loop
  rw[z6 F0]
  have hex:∀ f k,(xV v.1 (nv v.2.1) (nv v.2.2.1) k f).2=false->(xV v.1 (nv v.2.1) (nv v.2.2.1) k f).1=[]:=by
   intro f
   induction f with
   | zero=>intro k _; rfl
   | succ f ih =>
    intro k hk
    unfold xV at hk ⊢
    split at hk
    ·cases hk
    ·rename_i c; rw[if_neg c]; exact ih _ hk
  have h2:=hex 61 0
  simp only[Int.toNat_zero,Nat.sub_zero]
  generalize xV v.1 (nv v.2.1) (nv v.2.2.1) 0 61=z at *
  obtain⟨z1,z2⟩:=z
  cases z2 with
  | true=>simp
  | false=>simp at h2 ⊢; exact h2
 ·rintro _ ⟨k,rfl,hk⟩
  simp only[Int.toNat_natCast]
  by_cases qc:k<61
  ·have z6f:=og k
   have hm:=fM v.2.1 (zO (10 ^ k)) hn (zy _) (by omega) (by omega)
   rw[qf]at hm
   have hml:=Nat.le_trans (LH (nv v.2.1) (10 ^ k)) (Nat.add_le_add (q7 hn) z6f)
   have S5:=kS (zO (nv v.2.1*10 ^ k)) v.2.2.1 (zy _) hd (by omega) (by omega)
   rw[qf,if_neg hD]at S5
   have hq:=gy (Nat.div_le_self (nv v.2.1*10 ^ k) (nv v.2.2.1))
   have hpr:=cb (zO (nv v.2.1*10 ^ k / nv v.2.2.1)) (zy _) (by omega)
   rw[qf]at hpr
   have ZZ:=mD (nv v.2.1*10 ^ k / nv v.2.2.1) 2000 (by omega)
   have J1:=O2 (pr (nv v.2.1*10 ^ k / nv v.2.2.1)) k
   have hsl:=WR v.1
   have ef:61-k=(61-(k+1))+1:=by omega
   rw[ef,xV]
   by_cases c:nv v.2.1*10 ^ k % nv v.2.2.1=0
   ·right
    rw[if_pos c,if_pos rfl]
    unfold j4
    rw[zc (decide_eq_true (by omega)),z6 (fc k (by omega)),z6 hm,z6 S5]
    simp only
    rw[zc (by rw[nR]; exact decide_eq_true c),z6 (Jl v),z6 hpr,z6 (JV _ k (by omega) (by omega)),zP _ (by omega),z7]; rfl
   ·left
    rw[if_neg c]
    refine⟨(((k+1:Nat):Int),v),?_,⟨k+1,rfl,by omega⟩,by simp only[Int.toNat_natCast]; omega,by first | trivial | simp only[Int.toNat_natCast]⟩
    unfold j4
    rw[zc (decide_eq_true (by omega)),z6 (fc k (by omega)),z6 hm,z6 S5]
    simp only
    rw[za (by rw[nR]; exact decide_eq_false c),z7,i1 k (by omega)]
  ·right
   have:k=61:=by omega
   subst this
   unfold j4
   rw[za (decide_eq_false (by omega)),z7]; rfl
def fE(a:Rat):zf:=if nv a.2.2.1=1 then DZ a.1++pr (nv a.2.1)else DZ a.1++pr (nv a.2.1)++([47]++pr (nv a.2.2.1))
theorem Qr(a:Rat)(h:jo 1000 a):(cG a).run=some (fE (norm a)):=by
 have ya:=su (by omega) h
 have hrn:=tV a (Zu h (by omega))
 unfold cG
 rw[z6 hrn]
 clear hrn
 generalize norm a=v at *
 obtain⟨hn,hd,ln,ld⟩:=ya
 have hpn:=cb v.2.1 hn (by omega)
 have hpd:=cb v.2.2.1 hd (by omega)
 have hl1:=mD (nv v.2.1) 1000 (Nat.le_trans (q7 hn) ln)
 have dF:=mD (nv v.2.2.1) 1000 (Nat.le_trans (q7 hd) ld)
 have hsl:=WR v.1
 have h1:(jS 1).run=some (zO 1):=jV 1 (by omega)
 have hc:=eT v.2.2.1 (zO 1) hd (zy _) (by omega) (by rw[ow]; simp)
 rw[qf]at hc
 rw[z6 (Jl v),z6 hpn,zP _ (by omega),z6 h1,z6 hc]
 unfold fE Vb
 by_cases c:nv v.2.2.1=1
 ·rw[c,if_pos rfl,if_neg (by omega),if_neg (by omega),za (by rfl),z7]; rfl
 ·rw[if_neg c,zc (by
   split
   ·rfl
   ·split
    ·rfl
    ·omega),z6 hpd]
  simp only[cat]
  rw[zP _ (by simp; omega),zP _ (by simp; omega),z7]
end Go.AM.Lf
namespace Go.AM.T
variable {σ ρ α β:Type}
theorem Cb{r:σ->T (σ⊕ρ)}(l:List α)(d:α)(e:β->Int->σ)(I:Nat->β->Prop)(g:β->α->β)(fin:β->ρ)
  (step:∀ (k:Nat) (b:β) (x:α),k<l.length->nth l (k:Int) d=x->x∈l->I k b->(r (e b (k:Int))).run=some (.inl (e (g b x) ((k+1:Nat):Int)))/\I (k+1) (g b x))
  (done:∀ b,I l.length b->(r (e b (l.length:Int))).run=some (.inr (fin b))) {b:β} (h0:I 0 b):(loop r (e b 0)).run=some (fin (l.foldl g b))/\I l.length (l.foldl g b):=by
 have key:∀ (n k:Nat) (b:β),n+k=l.length->I k b->(loop r (e b (k:Int))).run=some (fin ((l.drop k).foldl g b))/\I l.length ((l.drop k).foldl g b):=by
  intro n
  induction n with
  | zero =>
   intro k b hk hb
   have:k=l.length:=by omega
   subst this
   rw[List.drop_length]
   exact⟨xw (done b hb),hb⟩
  | succ n ih =>
   intro k b hk hb
   have qc:k<l.length:=by omega
   have hd:l.drop k=l[k]::l.drop (k+1):=List.drop_eq_getElem_cons qc
   have hn:nth l (k:Int) d=l[k]:=by simp[nth,qc]
   obtain⟨h1,h2⟩:=step k b l[k] qc hn (List.getElem_mem qc) hb
   rw[hd,List.foldl_cons,j6 h1]
   exact ih (k+1) _ (by omega) h2
 have:=key l.length 0 b (by omega) h0
 simpa using this
theorem Ye{r:σ->T (σ⊕ρ)}(l:List α)(d:α)(e:β->Int->σ)(I:Nat->β->Prop)(g:β->α->β)(fin:β->ρ)
  (step:∀ (k:Nat) (b:β) (x:α),k<l.length->nth l (k:Int) d=x->x∈l->I k b->(r (e b (k:Int))).run=some (.inl (e (g b x) ((k+1:Nat):Int)))/\I (k+1) (g b x))
  (done:∀ b,I l.length b->(r (e b (l.length:Int))).run=some (.inr (fin b))) {b:β} (h0:I 0 b):(loop r (e b 0)).run=some (fin (l.foldl g b)) :=
 (Cb l d e I g fin step done h0).1
theorem W5{r:σ->T (σ⊕ρ)}(l:List α)(d:α)(e:β->Int->σ)(I:Nat->β->Prop)(f:List α->β->ρ)
  (step:∀ (k:Nat) (b:β) (x:α) (xs:List α),k<l.length->nth l (k:Int) d=x->x∈l->l.drop k=x::xs->I k b ->
   (∃ b',(r (e b (k:Int))).run=some (.inl (e b' ((k+1:Nat):Int)))/\I (k+1) b'/\f xs b'=f (x::xs) b)\/(r (e b (k:Int))).run=some (.inr (f (x::xs) b)))
  (done:∀ b,I l.length b->(r (e b (l.length:Int))).run=some (.inr (f [] b))) {b:β} (h0:I 0 b):(loop r (e b 0)).run=some (f l b):=by
 have key:∀ (n k:Nat) (b:β),n+k=l.length->I k b->(loop r (e b (k:Int))).run=some (f (l.drop k) b):=by
  intro n
  induction n with
  | zero =>
   intro k b hk hb
   have:k=l.length:=by omega
   subst this
   rw[List.drop_length]
   exact xw (done b hb)
  | succ n ih =>
   intro k b hk hb
   have qc:k<l.length:=by omega
   have hd:l.drop k=l[k]::l.drop (k+1):=List.drop_eq_getElem_cons qc
   have hn:nth l (k:Int) d=l[k]:=by simp[nth,qc]
   rcases step k b l[k] _ qc hn (List.getElem_mem qc) hd hb with⟨b',h1,h2,h3⟩ | h1
   ·rw[hd,j6 h1,<- h3]
    exact ih (k+1) _ (by omega) h2
   ·rw[hd]; exact xw h1
 have:=key l.length 0 b (by omega) h0
 simpa using this
end Go.AM.T
namespace Go.AM.PL
theorem K5(k n:Nat)(h:k<n)(hn:n<=4000000000000):zZ ((k:Int)+1)=((k+1:Nat):Int):=by rw[zI (by omega) (by omega)]; omega
theorem ma{k n:Nat}(h:k<n):decide ((k:Int)<(n:Int))=true:=decide_eq_true (by omega)
theorem pE(n:Nat):decide ((n:Int)<(n:Int))=false:=decide_eq_false (by omega)
theorem vC{k n:Nat}(h:k<n):qO (k:Int) n:=⟨by omega,by omega⟩
theorem Cd{α:Type}(f:α->zf)(l:List α)(s:zf):l.foldl (λs x=>s++f x) s=s++l.flatMap f:=by
 induction l generalizing s with
 | nil=>simp
 | cons x l ih=>rw[List.foldl_cons,ih,List.flatMap_cons,List.append_assoc]
theorem uQ{α:Type}(f:α->zf)(l:List α)(c:Nat)(h:∀ x∈l,(f x).length<=c):(l.flatMap f).length<=l.length*c:=by
 induction l with
 | nil=>simp
 | cons x l ih =>
  have h1:=h x List.mem_cons_self
  have h2:=ih λy hy=>h y (List.mem_cons_of_mem _ hy)
  rw[List.flatMap_cons,List.length_append,List.length_cons,Nat.add_mul]; omega
theorem EZ{k n c:Nat}(h:k<=n):k*c<=n*c:=Nat.mul_le_mul_right c h
theorem fJ(a b:zf):cat a b=a++b:=rfl
theorem xL(a b:zf):(cat a b).length=a.length+b.length:=by rw[fJ,List.length_append]
end Go.AM.PL
namespace Go.AM.PL
theorem FW(n:Nat)(h:n≠0):Q7 n=Fs n:=by
 induction n using Nat.strongRecOn with
 | _ n ih =>
  rw[Q7,sK h]
  split
  ·rename_i c
   rw[show n / 10=0 by omega,nI]
   unfold Sj
   rw[show n % 10=n by omega]; rfl
  ·rename_i c
   rw[ih (n / 10) (by omega) (by omega)]; rfl
theorem Ha(n:Nat):Q7 n=pr n:=by
 unfold pr
 by_cases h:n=0
 ·subst h; rw[Q7]; rfl
 ·rw[if_neg h,FW n h]
end Go.AM.PL
namespace Go.AM.Lf
open PL
def Ri(n:Int):Prop := -9223372036854775808<=n/\n<=9223372036854775807
theorem I7(n:Int)(h:Ri n):(strconv_Itoa n).run=some (nP n):=by
 unfold strconv_Itoa
 unfold Ri at h
 rw[zd h,z7]
theorem TN{n:Nat}(h:n<18446744073709551616):(zO n).length<=2:=zM.2 (by show n<4294967296 ^ 2; omega)
theorem UC{n:Nat}(h:n<18446744073709551616):(pr n).length<=37:=mD n 2 (TN h)
theorem Ud(n:Int)(h:Ri n):(nP n).length<=38:=by
 obtain⟨h1,h2⟩:=h
 unfold nP
 split
 ·rw[Ha]
  have:=UC (n:=n.natAbs) (by omega)
  simp; omega
 ·rw[Ha]
  have:=UC (n:=n.toNat) (by omega)
  omega
theorem ZI(a:Rat)(h:jo 1000 a):(fE (norm a)).length<=40000:=by
 have ya:=su (by omega) h
 generalize norm a=v at *
 have h1:=mD (nv v.2.1) 1000 (Nat.le_trans (q7 ya.1) ya.2.2.1)
 have h2:=mD (nv v.2.2.1) 1000 (Nat.le_trans (q7 ya.2.1) ya.2.2.2)
 have h3:=WR v.1
 unfold fE
 split<;>simp<;>omega
theorem Kx(s:zf):zk s s=true:=by rw[wu]; simp
end Go.AM.Lf
namespace Go.AM.PL
def uN(b:UInt8):Bool:=decide (48<=b.toNat/\b.toNat<=57)
def qT(s:zf):Bool:=s.all uN
def wk(s:zf):Nat:=s.foldl (λn b=>n*10+(b.toNat-48)) 0
theorem CZ(s:zf)(n:Nat):s.foldl (λn b=>n*10+(b.toNat-48)) n=n*10 ^ s.length+wk s:=by
 unfold wk
 induction s generalizing n with
 | nil=>simp
 | cons b s ih =>
  rw[List.foldl_cons,List.foldl_cons,ih,ih (0*10+(b.toNat-48)),List.length_cons,Nat.pow_succ]
  grind
theorem nG(s t:zf):wk (s++t)=wk s*10 ^ t.length+wk t:=by
 have:=CZ t (wk s)
 unfold wk at this ⊢
 rw[List.foldl_append,this]
theorem Xw(s:zf)(b:UInt8):wk (s++[b])=wk s*10+(b.toNat-48):=by
 unfold wk; rw[List.foldl_append]; rfl
theorem iM{b:UInt8}:uN b=true↔48<=b.toNat/\b.toNat<=57:=by unfold uN; simp
theorem W9{s:zf}(h:qT s=true):wk s<10 ^ s.length:=by
 have key:∀ (s:zf) (n k:Nat),qT s=true->n<10 ^ k->s.foldl (λn b=>n*10+(b.toNat-48)) n<10 ^ (k+s.length):=by
  intro s
  induction s with
  | nil=>intro n k _ h; simpa using h
  | cons b s ih =>
   intro n k hd hn
   simp only[qT,List.all_cons,Bool.and_eq_true]at hd
   have hb:=iM.1 hd.1
   have:=ih (n*10+(b.toNat-48)) (k+1) hd.2 (by rw[Nat.pow_succ]; omega)
   rw[List.foldl_cons,List.length_cons]
   rwa [show k+(s.length+1)=k+1+s.length by omega]
 have:=key s 0 0 h (by simp)
 simpa[wk]using this
theorem yM(s t:zf):qT (s++t)=(qT s&&qT t):=by unfold qT; rw[List.all_append]
theorem uf(b:UInt8)(t:zf):qT (b::t)=(uN b&&qT t):=rfl
theorem nO{s:zf}(h:qT s=true):(zO (wk s)).length<=s.length+1:=by
 refine Nat.le_trans (sZ (Nat.le_of_lt (W9 h))) ?_
 refine zM.2 (Nat.lt_of_lt_of_le (Nat.pow_lt_pow_right (a:=10) (by omega) (Nat.lt_succ_self s.length)) ?_)
 exact Nat.pow_le_pow_left (by omega) _
def dL(s:zf):Option Nat:=if s=[]\/400<s.length\/qT s=false then none else some (wk s)
theorem ZV(f:Nat->Bool):∀ (n k i:Nat),i<n->fO .bool (gA .bool n) (BM (e:=.bool) f n k) i=f (k+i)
 | 0,_,_,h=>by omega
 | n+1,k,0,_=>by
  show(match(we (a:=.bool) (f k):Option (den .bool))with | some y=>y | none=>zq .bool)=_
  simp[we]
 | n+1,k,i+1,h=>by
  show fO .bool (gA .bool n) (BM (e:=.bool) f n (k+1)) i=_
  rw[ZV f n (k+1) i (by omega)]
  congr 1; omega
abbrev uE:zf:=[48,49,50,51,52,53,54,55,56,57]
theorem O4:∀ c:Fin 256,uE.contains (UInt8.ofNat c.val)=decide (48<=c.val/\c.val<=57):=by decide +kernel
theorem b8{s:zf}{k:Nat}(h:k<s.length):qz s (k:Int)=((s[k]).toNat:Int):=by
 unfold qz; simp[h]
theorem Yc(b:UInt8)(s:zf):um 1 (((b::s).length:Nat):Int) (b::s)=s:=by unfold um; simp
theorem C5(s:zf)(b:UInt8):um 0 ((s.length:Nat):Int) (s++[b])=s:=by unfold um; simp
end Go.AM.PL
namespace Go.AM.Lf
open PL
theorem nt(b:UInt8):(xe (yZ uE) (b.toNat:Int)).run=some (uN b):=by
 have hb:b.toNat<256:=b.toNat_lt
 unfold xe
 rw[zd ⟨by omega,by omega⟩,z7]
 unfold yZ
 rw[Int.toNat_natCast,ZV _ 256 0 _ hb,Nat.zero_add]
 exact congrArg some (O4 ⟨b.toNat,hb⟩)
theorem Q9(s:zf)(hs:s.length<=1000000000):∃ r,(wH s (yZ uE)).run=some r/\qT r=qT s/\(qT r=true->r=[])/\r.length<=s.length:=by
 have:=T.xW (r:=xd (yZ uE)) (λt:zf=>qT t=qT s/\t.length<=s.length) (λt=>t.length) (λr:zf=>qT r=qT s/\(qT r=true->r=[])/\r.length<=s.length) (λt ht => ?_) (s:=s) ⟨rfl,Nat.le_refl _⟩
 ·obtain⟨r,h1,h2⟩:=this
  have h1:(ji (yZ uE) s).run=some r:=h1
  unfold wH
  rw[z6 h1]
  exact⟨r,rfl,h2⟩
 ·rcases List.eq_nil_or_concat t with rfl | ⟨l,b,rfl⟩
  ·right
   refine⟨[],?_,ht.1,λ_=>rfl,by simp⟩
   unfold xd
   dsimp only
   rw[za (by rfl),z7]
  ·rw[List.concat_eq_append]at ht ⊢
   have hl:(l++[b]).length=l.length+1:=by simp
   have e1:zZ (((l++[b]).length:Int)-1)=(l.length:Int):=by rw[hl,zI (by omega) (by omega)]; omega
   have e2:qz (l++[b]) (l.length:Int)=(b.toNat:Int):=by rw[b8 (by simp)]; simp
   unfold xd
   dsimp only
   rw[zc (decide_eq_true (by rw[hl]; omega)),e1,qq _ (by omega) (by rw[hl]; omega),e2,z6 (nt b)]
   cases hb:uN b with
   | false =>
    right
    refine⟨_,by rw[zc (by rfl),z7],ht.1,λh => ?_,ht.2⟩
    rw[yM,uf,hb]at h; simp at h
   | true =>
    left
    refine⟨l,by rw[za (by rfl),c9 _ (by omega) (by omega) (by rw[hl]; omega),z7,C5],⟨?_,by omega⟩,by omega⟩
    rw[<- ht.1,yM,uf,hb]; simp[qT]
theorem Wo(s:zf)(hs:s.length<=1000000000):∃ r,(vb s (yZ uE)).run=some r/\qT r=qT s/\(qT r=true->r=[]):=by
 have:=T.xW (r:=xh (yZ uE)) (λt:zf=>qT t=qT s) (λt=>t.length) (λr:zf=>qT r=qT s/\(qT r=true->r=[])) (λt ht => ?_) (s:=s) rfl
 ·obtain⟨r,h1,h2⟩:=this
  have h1:(jC (yZ uE) s).run=some r:=h1
  unfold vb
  rw[z6 h1]
  exact⟨r,rfl,h2⟩
 ·cases t with
  | nil =>
   right
   refine⟨[],?_,ht,λ_=>rfl⟩
   unfold xh
   dsimp only
   rw[za (by rfl),z7]
  | cons b l =>
   have e2:qz (b::l) 0=(b.toNat:Int):=rfl
   unfold xh
   dsimp only
   rw[zc (decide_eq_true (by simp)),qq _ (by omega) (by simp),e2,z6 (nt b)]
   cases hb:uN b with
   | false =>
    right
    refine⟨_,by rw[zc (by rfl),z7],ht,λh => ?_⟩
    rw[uf,hb]at h; simp at h
   | true =>
    left
    refine⟨l,by rw[za (by rfl),c9 _ (by omega) (by simp; omega) (by omega),z7,Yc],?_,by simp⟩
    rw[<- ht,uf,hb]; rfl
theorem WQ:∀ (j:Nat) b,uE[j]? = some b->b.toNat<128:=by
 intro j b h
 have:b∈uE:=List.mem_of_getElem? h
 simp only[uE,List.mem_cons,List.not_mem_nil,or_false]at this
 rcases this with rfl | rfl | rfl | rfl | rfl | rfl | rfl | rfl | rfl | rfl<;>decide
theorem sg(s:zf)(hs:s.length<=1000000000)(hn:s≠[]):∃ r,(j7 s uE).run=some r/\zk r []=qT s:=by
 obtain⟨r1,a1,a2,a3,a4⟩:=Q9 s hs
 obtain⟨r,b1,b2,b3⟩:=Wo r1 (by omega)
 refine⟨r,?_,?_⟩
 ·have hm:(strings_makeASCIISet uE).run=some (yZ uE,true):=by
   unfold strings_makeASCIISet
   rw[zd ⟨by decide,WQ⟩,z7]
  have e1:zk s []=false:=by rw[wu]; simpa using hn
  unfold j7
  rw[za (by rw[e1]; rfl),zd (λh=>by simp at h),za (by rfl),z6 hm,zm,z6 a1,z6 b1,z7]
 ·rw[wu]
  rw[a2]at b2
  cases h:qT s with
  | true=>rw[h]at b2; rw[b3 b2]; simp
  | false =>
   rw[h]at b2
   refine decide_eq_false λz => ?_
   subst z; cases b2
theorem RX(v:Nat)(b:UInt8)(hb:uN b=true):zS (Lm ((b.toNat:Int)-48))=((b.toNat-48:Nat):Int):=by
 have:=iM.1 hb
 rw[Gc (by omega) (by omega),qK (by omega) (by omega)]; omega
theorem D2:zu [(10:Int)]:=by intro x hx; simp at hx; omega
theorem yy(s:zf)(hs:s.length<=1000000000):(wL s).run=some (match dL s with | some n=>(zO n,true) | none=>([],false)):=by
 unfold wL dL
 by_cases c1:s=[]
 ·subst c1; rw[if_pos (.inl rfl)]; rfl
 ·have e1:zk s []=false:=by rw[wu]; simpa using c1
  by_cases c2:400<s.length
  ·have hg:(.ite (zk s ([]:zf)) (.ret true) (.ite (decide ((400:Int)<(Nat.cast (List.length s):Int))) (.ret true) (T.bind (j7 s ([48,49,50,51,52,53,54,55,56,57]:zf)) λr=>.ret (!(zk r ([]:zf))))):T Bool).run=some true:=by
    rw[za e1,zc (decide_eq_true (by omega)),z7]
   rw[z6 hg,if_pos (.inr (.inl c2))]; rfl
  ·obtain⟨r,h1,h2⟩:=sg s hs c1
   have hg:(.ite (zk s ([]:zf)) (.ret true) (.ite (decide ((400:Int)<(Nat.cast (List.length s):Int))) (.ret true) (T.bind (j7 s ([48,49,50,51,52,53,54,55,56,57]:zf)) λr=>.ret (!(zk r ([]:zf))))):T Bool).run=some (!(qT s)):=by
    rw[za e1,za (decide_eq_false (by omega)),z6 h1,z7,h2]
   rw[z6 hg]
   cases hd:qT s with
   | false=>rw[if_pos (.inr (.inr rfl))]; rfl
   | true =>
    rw[if_neg (by simp[c1]; omega),za (by rfl)]
    have hL:(oq s (s.length:Int) ([],0)).run=some (zO (wk s)):=by
     have:=kZ (r:=kC s (s.length:Int)) (λst:List Int×Int=>∃ k:Nat,st=(zO (wk (s.take k)),(k:Int))/\k<=s.length) (λst=>s.length-st.2.toNat) (λ_=>zO (wk s)) (λst xm => ?_) (s:=([],0)) ⟨0,by simp[wk,qM],by omega⟩
     ·exact this
     ·obtain⟨k,rfl,hk⟩:=xm
      by_cases c:k<s.length
      ·left
       have hb:uN s[k]=true:=List.all_eq_true.1 hd _ (List.getElem_mem c)
       have ht:qT (s.take k)=true:=List.all_eq_true.2 λx hx=>List.all_eq_true.1 hd x (List.mem_of_mem_take hx)
       have hl:=nO ht
       have Lu:(zO (wk (s.take k))).length<=500:=by rw[List.length_take]at hl; omega
       have hm:=fM (zO (wk (s.take k))) [10] (zy _) D2 (by omega) (by simp)
       rw[qf,show nv [10]=10 from rfl]at hm
       have hml:=rD (wk (s.take k)) 10
       have SJ:(zO 10).length<=1:=zM.2 (by decide)
       have hd9:(zO (s[k].toNat-48)).length<=1:=zM.2 (by have:=iM.1 hb; show _<4294967296 ^ 1; omega)
       have ha:=Uf (zO (wk (s.take k)*10)) (zO (s[k].toNat-48)) (zy _) (zy _) (by omega) (by omega)
       rw[qf,qf]at ha
       refine⟨(zO (wk (s.take (k+1))),((k+1:Nat):Int)),?_,⟨k+1,rfl,c⟩,by simp only[Int.toNat_natCast]; omega,rfl⟩
       unfold kC
       dsimp only
       rw[zc (ma c),z6 hm,zd (vC c),b8 c,RX 0 _ hb,z6 (jV _ (by have:=iM.1 hb; omega)),z6 ha,z7,K5 k _ c (by omega),
        List.take_succ_eq_append_getElem c,Xw]
      ·have:k=s.length:=by omega
       subst this
       right
       unfold kC
       dsimp only
       rw[za (pE _),z7,List.take_length]
    rw[z6 hL,z7]
end Go.AM.Lf
namespace Go.AM.PL
def ZN(t:zf):Option (Nat×Nat) :=
 if t.takeWhile uN=[]then none else match t.dropWhile uN with
 | []=>some (wk (t.takeWhile uN),1)
 | c::q=>if q=[]\/qT q=false then none else if c=46 then some (wk (t.takeWhile uN)*10 ^ q.length+wk q,10 ^ q.length)
  else if c=47 then(if wk q=0 then none else some (wk (t.takeWhile uN),wk q))else none
theorem fT{u:zf}(h:qT u=true)(r:zf)(hr:∀ c q,r=c::q->uN c=false):(u++r).takeWhile uN=u/\(u++r).dropWhile uN=r:=by
 induction u with
 | nil =>
  cases r with
  | nil=>exact⟨rfl,rfl⟩
  | cons c q=>have:=hr c q rfl; simp[this]
 | cons b u ih =>
  rw[uf,Bool.and_eq_true]at h
  obtain⟨i1,i2⟩:=ih h.2
  simp[h.1,i1,i2]
theorem Ui{u:zf}(h:qT u=true):ZN u=if u=[]then none else some (wk u,1):=by
 have:=fT h [] (λc q z=>by cases z)
 rw[List.append_nil]at this
 unfold ZN
 rw[this.1,this.2]
theorem fU{u:zf}(h:qT u=true)(c:UInt8)(q:zf)(hc:uN c=false):ZN (u++c::q)=if u=[]then none else if q=[]\/qT q=false then none else if c=46 then some (wk u*10 ^ q.length+wk q,10 ^ q.length)
  else if c=47 then(if wk q=0 then none else some (wk u,wk q))else none:=by
 have:=fT h (c::q) (λc' q' z=>by cases z; exact hc)
 unfold ZN
 rw[this.1,this.2]
theorem JN{u:zf}(h:qT u=true)(c:UInt8)(q:zf)(hc:uN c=false)(h1:c≠46)(h2:c≠47):ZN (u++c::q)=none:=by
 rw[fU h c q hc,if_neg h1,if_neg h2]
 split
 ·rfl
 ·split<;>rfl
theorem cQ{w:zf}(h:qT w=false):∃ u c v,w=u++c::v/\qT u=true/\uN c=false:=by
 induction w with
 | nil=>cases h
 | cons b w ih =>
  cases hb:uN b with
  | false=>exact⟨[],b,w,rfl,rfl,hb⟩
  | true =>
   rw[uf,hb,Bool.true_and]at h
   obtain⟨u,c,v,rfl,h1,h2⟩:=ih h
   exact⟨b::u,c,v,rfl,by rw[uf,hb,h1]; rfl,h2⟩
theorem tg{c:UInt8}{s:zf}(h:c∈s):∃ w q,s=w++c::q/\c ∉ w:=by
 induction s with
 | nil=>cases h
 | cons b s ih =>
  by_cases hb:b=c
  ·subst hb; exact⟨[],s,rfl,by simp⟩
  ·obtain⟨w,q,rfl,h2⟩:=ih (by rcases List.mem_cons.1 h with h | h; exact absurd h.symm hb; exact h)
   exact⟨b::w,q,rfl,by simp[h2]; exact λz=>hb z.symm⟩
theorem NW(c:UInt8)(w q:zf)(h:c ∉ w):gK (w++c::q) [c]=(w.length:Int):=by
 induction w with
 | nil=>simp[gK]
 | cons b w ih =>
  have hb:c≠b:=λz=>h (by simp[z])
  have hw:=ih (λz=>h (List.mem_cons_of_mem _ z))
  rw[List.cons_append]
  unfold gK
  rw[hw]
  have e1:List.isPrefixOf [c] (b::(w++c::q))=false:=by simp[List.isPrefixOf,hb]
  rw[e1]
  have e2:((w.length:Int) == -1)=false:=by simp
  rw[e2]
  simp
theorem CL(c:UInt8)(s:zf)(h:c ∉ s):gK s [c] = -1:=by
 induction s with
 | nil=>rfl
 | cons b w ih =>
  have hb:c≠b:=λz=>h (by simp[z])
  unfold gK
  rw[ih (λz=>h (List.mem_cons_of_mem _ z))]
  have e1:List.isPrefixOf [c] (b::w)=false:=by simp[List.isPrefixOf,hb]
  rw[e1]; rfl
theorem nc(c:UInt8)(w q:zf)(h:c ∉ w):wm (w++c::q) [c]=(w,q,true):=by
 unfold wm
 rw[NW c w q h,if_pos (by omega)]
 simp
theorem ba(c:UInt8)(s:zf)(h:c ∉ s):wm s [c]=(s,[],false):=by
 unfold wm
 rw[CL c s h,if_neg (by omega)]
theorem Xl{s:zf}{n:Nat}(h:dL s=some n):s≠[]/\s.length<=400/\qT s=true/\n=wk s:=by
 unfold dL at h
 split at h
 ·cases h
 ·rename_i hc
  cases h
  simp only[not_or]at hc
  exact⟨hc.1,by omega,by simpa using hc.2.2,rfl⟩
theorem n5{s:zf}(h1:s≠[])(h2:s.length<=400)(h3:qT s=true):dL s=some (wk s):=by
 unfold dL
 rw[if_neg (by simp[h1,h3]; omega)]
theorem di{s:zf}(h:s=[]\/qT s=false):dL s=none:=by
 unfold dL
 rw[if_pos (by rcases h with h | h; exact .inl h; exact .inr (.inr h))]
end Go.AM.PL
namespace Go.AM.Lf
open PL
def zK:Rat:=(false,[],[],())
def oF(s:zf):Option (Nat×Nat):=ZN (cP s [45])
theorem pM(s p:zf):(cP s p).length<=s.length:=by unfold cP; split<;>simp
theorem Kd(t:zf)(ht:t.length<=400)(neg:Bool) :
  (T.bind (strings_Cut t ([46]:zf)) λ(whole,part,ok) =>
   .ite ok
    (T.bind (wL part) λ(r,is) =>
     .zC (((List.length whole)+(List.length part))<=(4611686018427387904:Nat)) <|
     T.bind (wL (cat whole part)) λ(n,both) =>
     .ite ((zk whole ([]:zf))||((!is)||(!both)))
      (.ret ((false,(([]:List Int),(([]:List Int),()))),(2:Int)))
      (T.bind (iJ (Nat.cast (List.length part):Int)) λr1 =>
       T.bind (dh neg n r1) λr2 =>
       .ret (r2,(0:Int))))
    (T.bind (strings_Cut t ([47]:zf)) λ(num,den,ok1) =>
     T.bind (wL num) λ(n1,is1) =>
     T.bind (wL (bif (!ok1)then([49]:zf)else den)) λ(d,both1) =>
     .ite ((!is1)||((!both1)||((Nat.cast (List.length d):Int)==(0:Int))))
      (.ret ((false,(([]:List Int),(([]:List Int),()))),(2:Int)))
      (T.bind (dh neg n1 d) λr3 =>
       .ret (r3,(0:Int)))):T (Rat×Int)).run=some (match ZN t with | some (n,d)=>(jz neg n d,(0:Int)) | none=>(zK,(2:Int))):=by
 have oB:∀ c:UInt8,(strings_Cut t [c]).run=some (wm t [c]):=λc=>by
  unfold strings_Cut; rw[zd (by omega),z7]
 rw[z6 (oB 46)]
 have h46:uN 46=false:=by decide
 have h47:uN 47=false:=by decide
 by_cases c1:(46:UInt8)∈t
 ·obtain⟨w,p,rfl,hw⟩:=tg c1
  rw[nc 46 w p hw]
  have hl:w.length+p.length+1<=400:=by simp at ht; omega
  dsimp only
  rw[zm,z6 (yy p (by omega))]
  have RF:=yy (cat w p) (by rw[xL]; omega)
  by_cases d1:qT w=true
  ·rw[fU d1 46 p h46]
   by_cases d2:w=[]
   ·subst d2
    rw[if_pos rfl]
    generalize dL p=o at *
    cases o<;>(dsimp only; rw[zP _ (by simp; omega),z6 RF]; generalize dL (cat [] p)=o2; cases o2<;>rfl)
   ·rw[if_neg d2]
    by_cases d3:p=[]\/qT p=false
    ·rw[if_pos d3,di d3]
     dsimp only
     rw[zP _ (by omega),z6 RF]
     generalize dL (cat w p)=o2
     cases o2<;>(dsimp only; rw[zc (by simp),z7]; rfl)
    ·rw[if_neg d3,if_pos rfl]
     have d4:p≠[]:=λz=>d3 (.inl z)
     have d5:qT p=true:=by cases h:qT p with | true=>rfl | false=>exact absurd (.inr h) d3
     have d6:qT (cat w p)=true:=by rw[fJ,yM,d1,d5]; rfl
     have d7:cat w p≠[]:=by rw[fJ]; simp[d2]
     rw[n5 d4 (by omega) d5]
     rw[n5 d7 (by rw[xL]; omega) d6]at RF
     dsimp only at RF ⊢
     have e1:zk w []=false:=by rw[wu]; simpa using d2
     have SJ:=og p.length
     have hn:=nO d6
     have ho:=ml neg (zO (wk (cat w p))) (zO (10 ^ p.length)) (zy _) (zy _) (by rw[xL]at hn; omega) (by omega)
     rw[qf,qf]at ho
     rw[zP _ (by omega),z6 RF]
     dsimp only
     rw[za (by rw[e1]; rfl),z6 (fc p.length (by omega)),z6 ho,z7,fJ,nG]
  ·have d1:qT w=false:=by simpa using d1
   obtain⟨u,c,v,rfl,g1,g2⟩:=cQ d1
   have MU:c≠46:=λz=>hw (by simp[z])
   have e:ZN (u++c::v++46::p)=none:=by
    rw[List.append_assoc,List.cons_append,fU g1 c _ g2]
    have:qT (v++46::p)=false:=by rw[yM,uf,h46]; simp
    rw[if_pos (show v++46::p=[]\/qT (v++46::p)=false from .inr this)]; split<;>rfl
   rw[e]
   have ya:dL (cat (u++c::v) p)=none:=di (.inr (by rw[fJ,yM,d1]; rfl))
   rw[ya]at RF
   generalize dL p=o at *
   cases o<;>(dsimp only; rw[zP _ (by omega),z6 RF]; dsimp only; rw[zc (by simp),z7]; rfl)
 ·rw[ba 46 t c1]
  dsimp only
  rw[zh,z6 (oB 47)]
  have fin:∀ (num den:zf) (x:Bool),num.length<=400->den.length<=400->(T.bind (wL num) λ(n1,is1) =>
     T.bind (wL (bif (!x)then([49]:zf)else den)) λ(d,both1) =>
     .ite ((!is1)||((!both1)||((Nat.cast (List.length d):Int)==(0:Int))))
      (.ret ((false,(([]:List Int),(([]:List Int),()))),(2:Int)))
      (T.bind (dh neg n1 d) λr3=>.ret (r3,(0:Int))):T (Rat×Int)).run =
     some (match dL num,dL (bif (!x)then([49]:zf)else den)with | some n,some d=>if d=0 then(zK,(2:Int))else(jz neg n d,(0:Int)) | _,_=>(zK,(2:Int))):=by
   intro num den x hn hd
   have OD:(bif (!x)then([49]:zf)else den).length<=400:=by cases x<;>simp[hd]
   generalize (bif (!x)then([49]:zf)else den)=dd at *
   rw[z6 (yy num (by omega))]
   have Di:=yy dd (by omega)
   cases h1:dL num with
   | none =>
    dsimp only
    rw[z6 Di]
    generalize dL dd=o
    cases o<;>rfl
   | some n =>
    dsimp only
    rw[z6 Di]
    cases h2:dL dd with
    | none=>rfl
    | some d =>
     obtain⟨a1,a2,a3,rfl⟩:=Xl h1
     obtain⟨b1,b2,b3,rfl⟩:=Xl h2
     dsimp only
     have l1:=nO a3
     have l2:=nO b3
     by_cases z:wk dd=0
     ·rw[z,qM,if_pos rfl]; rfl
     ·rw[if_neg z]
      have:(zO (wk dd)).length≠0:=λh=>z (wW.1 (List.eq_nil_of_length_eq_zero h))
      have ho:=ml neg (zO (wk num)) (zO (wk dd)) (zy _) (zy _) (by omega) (by omega)
      rw[qf,qf]at ho
      rw[za (by simp; exact λh=>z (wW.1 h)),z6 ho,z7]
  by_cases c2:(47:UInt8)∈t
  ·obtain⟨w,q,rfl,hw⟩:=tg c2
   rw[nc 47 w q hw]
   have hl:w.length+q.length+1<=400:=by simp at ht; omega
   rw[fin w q true (by omega) (by omega)]
   rw[show(bif (!true)then([49]:zf)else q)=q from rfl]
   by_cases d1:qT w=true
   ·rw[fU d1 47 q h47]
    by_cases d2:w=[]
    ·rw[if_pos d2,di (.inl d2)]
    ·rw[if_neg d2,n5 d2 (by omega) d1]
     by_cases d3:q=[]\/qT q=false
     ·rw[if_pos d3,di d3]
     ·have d4:q≠[]:=λz=>d3 (.inl z)
      have d5:qT q=true:=by cases h:qT q with | true=>rfl | false=>exact absurd (.inr h) d3
      rw[if_neg d3,if_neg (by decide),if_pos rfl,n5 d4 (by omega) d5]
      dsimp only
      split<;>rfl
   ·have d1:qT w=false:=by simpa using d1
    obtain⟨u,c,v,rfl,g1,g2⟩:=cQ d1
    rw[di (.inr d1)]
    have Ry:c≠47:=λz=>hw (by simp[z])
    have MU:c≠46:=λz=>c1 (by simp[z])
    rw[List.append_assoc,List.cons_append,JN g1 c _ g2 MU Ry]
  ·rw[ba 47 t c2]
   rw[fin t [] false ht (by simp)]
   rw[show(bif (!false)then([49]:zf)else[])=[49]from rfl]
   have h1:dL [49]=some 1:=by decide
   rw[h1]
   by_cases d1:qT t=true
   ·rw[Ui d1]
    by_cases d2:t=[]
    ·rw[if_pos d2,di (.inl d2)]
    ·rw[if_neg d2,n5 d2 ht d1]; rfl
   ·have d1:qT t=false:=by simpa using d1
    rw[di (.inr d1)]
    obtain⟨u,c,v,rfl,g1,g2⟩:=cQ d1
    have Ry:c≠47:=λz=>c2 (by simp[z])
    have MU:c≠46:=λz=>c1 (by simp[z])
    rw[JN g1 c _ g2 MU Ry]
theorem lM(s:zf)(hs:s.length<=1000000000):(kh s).run=some (if 400<s.length then(zK,(3:Int))else match oF s with | some (n,d)=>(jz (List.isPrefixOf [45] s) n d,(0:Int)) | none=>(zK,(2:Int))):=by
 unfold kh
 by_cases c:400<s.length
 ·rw[zc (decide_eq_true (by omega)),if_pos c,z7]; rfl
 ·have hp:(strings_CutPrefix s [45]).run=some (cP s [45],List.isPrefixOf [45] s):=rfl
  have hl:=pM s [45]
  rw[za (decide_eq_false (by omega)),if_neg c,z6 hp]
  exact Kd _ (by omega) _
end Go.AM.Lf
namespace Go.AM.PL
theorem Su(t:zf):∃ u r,t=u++r/\qT u=true/\(∀ c q,r=c::q->uN c=false):=by
 induction t with
 | nil=>exact⟨[],[],rfl,rfl,λc q h=>by cases h⟩
 | cons b t ih =>
  cases hb:uN b with
  | false=>exact⟨[],b::t,rfl,rfl,λc q h=>by cases h; exact hb⟩
  | true =>
   obtain⟨u,r,rfl,h1,h2⟩:=ih
   exact⟨b::u,r,rfl,by rw[uf,hb,h1]; rfl,h2⟩
end Go.AM.PL

namespace Go.AM.PL
theorem NR(n:Nat):uN (Sj n)=true/\(Sj n).toNat-48=n % 10:=by
 have h:(Sj n).toNat=48+n % 10:=by unfold Sj; rw[UInt8.toNat_ofNat']; omega
 exact⟨iM.2 (by omega),by omega⟩
theorem E0(n:Nat):qT (Fs n)=true/\wk (Fs n)=n:=by
 induction n using Nat.strongRecOn with
 | _ n ih =>
  by_cases h:n=0
  ·subst h; rw[nI]; exact⟨rfl,rfl⟩
  ·obtain⟨h1,h2⟩:=ih (n / 10) (by omega)
   obtain⟨h3,h4⟩:=NR n
   rw[sK h]
   refine⟨by rw[yM,h1,uf,h3]; rfl,?_⟩
   rw[Xw,h2,h4]; omega
theorem LP(n:Nat):qT (pr n)=true/\wk (pr n)=n:=by
 unfold pr
 split
 ·rename_i h; subst h; exact⟨by decide,by decide⟩
 ·exact E0 n
theorem IB(k:Nat):qT (bB [48] k)=true/\wk (bB [48] k)=0:=by
 induction k with
 | zero=>exact⟨rfl,rfl⟩
 | succ k ih =>
  show qT ([48]++bB [48] k)=true/\wk ([48]++bB [48] k)=0
  rw[yM,nG,ih.1,ih.2]
  exact⟨by decide,by show 0*_+0=0; omega⟩
end Go.AM.PL
namespace Go.AM.Lf
open PL
theorem BG(s:zf)(k:Nat)(hk:k≠0)(hs:qT s=true):∃ w p,Le s k=w++46::p/\qT w=true/\w≠[]/\qT p=true/\p.length=k/\wk w*10 ^ k+wk p=wk s/\w.length+k=max s.length (k+1):=by
 unfold Le
 rw[if_neg hk]
 have hr:=IB (k+1-s.length)
 have hl:=tQ (k+1-s.length)
 have hd:qT (bB [48] (k+1-s.length)++s)=true:=by rw[yM,hr.1,hs]; rfl
 have hv:wk (bB [48] (k+1-s.length)++s)=wk s:=by rw[nG,hr.2]; omega
 have hlen:(bB [48] (k+1-s.length)++s).length=(k+1-s.length)+s.length:=by rw[List.length_append,hl]
 generalize bB [48] (k+1-s.length)++s=t at *
 refine⟨t.take (t.length-k),t.drop (t.length-k),by simp,?_,?_,?_,by simp; omega,?_,by simp; omega⟩
 ·exact List.all_eq_true.2 λx hx=>List.all_eq_true.1 hd x (List.mem_of_mem_take hx)
 ·intro z
  have:=congrArg List.length z
  simp at this; omega
 ·exact List.all_eq_true.2 λx hx=>List.all_eq_true.1 hd x (List.mem_of_mem_drop hx)
 ·have:=nG (t.take (t.length-k)) (t.drop (t.length-k))
  rw[List.take_append_drop,hv,List.length_drop,show t.length-(t.length-k)=k by omega]at this
  exact this.symm
theorem XH(b:Bool)(N D:Nat)(hD:D≠0):∀ (f k:Nat) (s:zf),xV b N D k f=(s,true)->∃ j,k<=j/\j<k+f/\N*10 ^ j % D=0/\s=DZ b++Le (pr (N*10 ^ j / D)) j
 | 0,k,s,h=>by unfold xV at h; cases h
 | f+1,k,s,h=>by
  unfold xV at h
  split at h
  ·rename_i c; cases h; exact⟨k,Nat.le_refl _,by omega,c,rfl⟩
  ·obtain⟨j,h1,h2,h3,h4⟩:=XH b N D hD f (k+1) s h
   exact⟨j,by omega,by omega,h3,h4⟩
theorem Nf{t:zf}{n d:Nat}(h:ZN t=some (n,d)):n<10 ^ t.length/\d<=10 ^ t.length:=by
 obtain⟨u,r,rfl,h1,h2⟩:=Su t
 have hu:=W9 h1
 cases r with
 | nil =>
  rw[List.append_nil,Ui h1]at h
  split at h
  ·cases h
  ·cases h
   rw[List.append_nil]
   exact⟨hu,Nat.one_le_pow _ _ (by omega)⟩
 | cons c q =>
  rw[fU h1 c q (h2 c q rfl)]at h
  have hl:(u++c::q).length=u.length+q.length+1:=by simp; omega
  have mono:∀ {a b:Nat},a<=b->10 ^ a<=10 ^ b:=λh=>Nat.pow_le_pow_right (by omega) h
  split at h
  ·cases h
  ·split at h
   ·cases h
   ·rename_i hq
    have hd:qT q=true:=by cases hh:qT q with | true=>rfl | false=>exact absurd (.inr hh) hq
    have hq1:=W9 hd
    rw[hl]
    split at h
    ·cases h
     refine⟨?_,mono (by omega)⟩
     have e:10 ^ (u.length+q.length)<=10 ^ (u.length+q.length+1):=mono (by omega)
     rw[Nat.pow_add]at e
     have:(wk u+1)*10 ^ q.length<=10 ^ u.length*10 ^ q.length:=Nat.mul_le_mul_right _ hu
     rw[Nat.add_mul,Nat.one_mul]at this
     omega
    ·split at h
     ·split at h
      ·cases h
      ·cases h
       have e1:10 ^ u.length<=10 ^ (u.length+q.length+1):=mono (by omega)
       have e2:10 ^ q.length<=10 ^ (u.length+q.length+1):=mono (by omega)
       omega
     ·cases h
theorem z1Z:10 ^ 400<4294967296 ^ 42:=by decide +kernel
theorem L6{n k:Nat}(h:n<=10 ^ k)(hk:k<=400):(zO n).length<=42 :=
 zM.2 (Nat.lt_of_le_of_lt (Nat.le_trans h (Nat.pow_le_pow_right (by omega) hk)) z1Z)
theorem pN{s:zf}{n d:Nat}(neg:Bool)(hs:s.length<=400)(h:oF s=some (n,d)):jo 50 (jz neg n d):=by
 have hl:=pM s [45]
 obtain⟨h1,h2⟩:=Nf h
 exact GM _ _ _ _ (by omega) (Nat.le_trans (L6 (by omega) (by omega:(cP s [45]).length<=400)) (by omega)) (Nat.le_trans (L6 h2 (by omega)) (by omega))
def mZ{α:Type}(p:α->Bool)(i:Int):List α->Int
 | [] => -1
 | x::r=>if p x=true then i else mZ p (i+1) r
end Go.AM.Lf
namespace Go.AM.T
theorem zg{α β:Type}(a:β)(t:T α):(zC (a=a) t).run=t.run:=zd rfl t
end Go.AM.T
namespace Go.AM.Lf
open PL
abbrev z6r:Ty:=.cons .str (.cons yj .nil)
abbrev Tg:=den z6r
theorem oR{α:Type}{l:List α}{k:Nat}(h:k<l.length)(d:α):nth l (k:Int) d=l[k]:=by simp[nth,h]
theorem rH(s:zf):(bytesOf s).length=s.length:=by unfold bytesOf; simp
theorem JG(s t:zf):bytesOf (s++t)=bytesOf s++bytesOf t:=by unfold bytesOf; simp
theorem Jn(s:zf):xy (bytesOf s)=s:=by
 unfold xy bytesOf
 rw[List.map_map]
 conv=>rhs; rw[<- List.map_id s]
 refine List.map_congr_left λb _ => ?_
 simp[byteOf]
theorem QE(s:zf):∀ n∈bytesOf s,(0:Int)<=n/\n<256:=by
 intro n hn
 unfold bytesOf at hn
 obtain⟨b,_,rfl⟩:=List.mem_map.1 hn
 have:=b.toNat_lt
 omega
theorem vn(s b:zf)(h:b.length+s.length<=140737488355328):(zF s () (bytesOf b)).run=some ((s.length:Int),(),bytesOf (b++s)):=by
 unfold zF cg
 simp only[T.bind]
 rw[zH _ rfl rfl rfl,zd rfl,cR _ rfl rfl rfl (by simp only[rH]; omega),zH _ (by simp) rfl (by simp),zd (by simp),z7,JG]
theorem Qu(b:zf)(h:b.length<=140737488355328):(dS () (bytesOf b)).run=some (b,()):=by
 unfold dS On
 rw[zd ⟨QE b,by rw[rH]; exact h⟩,z7,Jn]
def z0Z(x:Tg):zf:=x.1++[32]++fE (norm x.2.1)++[10]
def Q5(b:UInt8):Bool:=decide (97<=(b.toNat:Int))&&decide ((b.toNat:Int)<=122)
def je(b:UInt8):Bool:=Q5 b||((decide (48<=(b.toNat:Int))&&decide ((b.toNat:Int)<=57))||((b.toNat:Int)==95))
def zJ(s:zf):Bool:=match s with | []=>false | b::_=>decide (s.length<=24)&&(Q5 b&&s.all je)
theorem eZ(b:UInt8):(wI (b.toNat:Int)).run=some (je b):=by
 have h1:(xZ (b.toNat:Int)).run=some (Q5 b):=rfl
 have h2:(xk (b.toNat:Int)).run=some (decide (48<=(b.toNat:Int))&&decide ((b.toNat:Int)<=57)):=rfl
 unfold wI je
 rw[z6 h1]
 cases Q5 b with
 | true=>rw[zm,z7]; rfl
 | false =>
  rw[zh,z6 h2]
  cases(decide (48<=(b.toNat:Int))&&decide ((b.toNat:Int)<=57))with
  | true=>rw[zm,z7]; rfl
  | false=>rw[zh,z7]; rfl
theorem xi(s:zf):(qS s).run=some (zJ s):=by
 unfold qS
 cases s with
 | nil=>rfl
 | cons b r =>
  have e0:zk (b::r) []=false:=by rw[wu]; simp
  rw[e0]
  by_cases c:24<(b::r).length
  ·have:(T.ite false (.ret true) (.ite (decide ((24:Int)<((b::r).length:Int))) (.ret true) (.zC (qO (0:Int) (List.length (b::r)))<|T.bind (xZ (qz (b::r) (0:Int))) λr=>.ret (!r))):T Bool).run=some true:=by
    rw[zh,zc (decide_eq_true (by omega)),z7]
   rw[z6 this,zm,z7]
   unfold zJ
   rw[decide_eq_false (by omega)]; rfl
  ·have hb:qz (b::r) (0:Int)=(b.toNat:Int):=b8 (s:=b::r) (k:=0) (by simp)
   have h1:(xZ (b.toNat:Int)).run=some (Q5 b):=rfl
   have:(T.ite false (.ret true) (.ite (decide ((24:Int)<((b::r).length:Int))) (.ret true) (.zC (qO (0:Int) (List.length (b::r)))<|T.bind (xZ (qz (b::r) (0:Int))) λr=>.ret (!r))):T Bool).run=some (!Q5 b):=by
    rw[zh,za (decide_eq_false (by omega)),zd (by refine⟨by omega,?_⟩; simp only[List.length_cons]; omega),hb,z6 h1,z7]
   rw[z6 this]
   unfold zJ
   dsimp only
   rw[decide_eq_true (by omega),Bool.true_and]
   cases Q5 b with
   | false=>rw[zc (by rfl),z7]; rfl
   | true =>
    rw[za (by rfl),Bool.true_and]
    have key:(o0 (b::r) ((b::r).length:Int) 0).run=some (if(b::r).all je=true then .inl ()else .inr false):=by
     refine T.W5 (r:=jb (b::r) ((b::r).length:Int)) (b::r) (0:UInt8) (λ(_:Unit) i=>i) (λ_ _=>True) (λl _=>(if l.all je=true then .inl ()else .inr false:Unit⊕Bool)) (λk _ x xs hk hx hm hd hI => ?_) (λ_ _ => ?_) (b:=()) trivial
     ·have hxk:(b::r)[k]=x:=by rw[<- hx]; unfold nth; rw[Int.toNat_natCast,List.getD_eq_getElem?_getD,List.getElem?_eq_getElem hk]; rfl
      have H5:qz (b::r) (k:Int)=(x.toNat:Int):=by rw[b8 hk,hxk]
      cases tb:je x with
      | true =>
       left
       refine⟨(),?_,trivial,?_⟩
       ·unfold jb
        rw[zc (ma hk),zd (vC hk),H5,z6 (eZ x),tb,za (by rfl),z7,K5 k _ hk (by omega)]
       ·rw[List.all_cons,tb,Bool.true_and]
      | false =>
       right
       unfold jb
       rw[zc (ma hk),zd (vC hk),H5,z6 (eZ x),tb,zc (by rfl),z7,List.all_cons,tb]
       rfl
     ·unfold jb
      rw[za (pE _),z7]; rfl
    rw[z6 key]
    cases h:(b::r).all je with
    | true=>rfl
    | false=>rfl
theorem lQ(l:List zf)(v:zf)(hl:l.length<=1000000000):(qx l v).run=some (PL.mZ (λs=>zk v s) 0 l):=by
 have key:(jq l v (l.length:Int) 0).run=some (if PL.mZ (λs=>zk v s) 0 l = -1 then .inl ()else .inr (PL.mZ (λs=>zk v s) 0 l)):=by
  refine PL.nM (r:=qw l v (l.length:Int)) l (zq .str) _ (λi h0 h hp => ?_) (λi h0 h hp => ?_) (λi h => ?_)
  ·unfold qw
   rw[zc (decide_eq_true h),zd ⟨h0,h⟩,zc hp,z7]
  ·unfold qw
   rw[zc (decide_eq_true h),zd ⟨h0,h⟩,za hp,z7,zI (by omega) (by omega)]
  ·unfold qw
   rw[za (decide_eq_false h),z7]
 unfold qx
 rw[z6 key]
 split<;>rename_i h
 ·rw[h]; rfl
 ·rfl
mutual
/-- What an expression weighs. -/
def szE:Expr->Nat
 | .mk _ n s l=>3+s.length+8*n.2.1.length+8*n.2.2.1.length+szEs l
def szEs:List Expr->Nat
 | []=>0
 | e::r=>szE e+szEs r
end
def trimB(l:List Int):Bool:=zO (nv l)==l
def mq(a:Rat):Bool:=trimB a.2.1&&(trimB a.2.2.1&&(!(nv a.2.2.1==0)&&(!(a.1&&(nv a.2.1==0))&&(Nat.gcd (nv a.2.1) (nv a.2.2.1)==1))))
theorem uk{l:List Int}(h:zu l):trimB l=true↔tx l:=by
 unfold trimB
 constructor
 ·intro e
  have e:zO (nv l)=l:=by simpa using e
  rw[<- e]; exact iD _
 ·intro ht
  rw[pH h ht]; simp
theorem tN(l:List Int)(h:zu l)(hl:l.length<=1000000000):(b4 l).run=some (trimB l):=by
 unfold b4
 cases l with
 | nil =>
  rw[zd (λh=>by simp at h),z7]
  have e:trimB []=true:=by unfold trimB; rw[show nv []=0 from rfl,qM]; rfl
  rw[e]; rfl
 | cons x r =>
  obtain⟨n,hn⟩:∃ n,(x::r).length=n+1:=⟨r.length,rfl⟩
  have ew:zZ (((x::r).length:Int)-1)=(n:Int):=by rw[hn,zI (by omega) (by omega)]; omega
  have G1:n<(x::r).length:=by omega
  have e0:(((x::r).length:Int)==0)=false:=by rw[hn]; simp; omega
  have hg:(x::r).getLast? = some ((x::r)[n]):=by
   rw[List.getLast?_eq_getElem?,hn,Nat.add_sub_cancel,List.getElem?_eq_getElem G1]
  rw[zd (λ_=>by rw[ew]; exact vC G1),z7,ew,oR G1,e0,Bool.false_or]
  congr 1
  cases hq:((x::r)[n] != 0)with
  | true =>
   symm
   rw[uk h]
   intro y hy
   rw[hg]at hy
   cases hy
   simpa using hq
  | false =>
   symm
   rw[Bool.eq_false_iff]
   intro ht
   have:=(uk h).1 ht _ hg
   simp at hq
   exact this hq
theorem mR(a:Rat)(h:jo 100000000 a):(my a).run=some (mq a):=by
 obtain⟨h1,h2,h3,h4⟩:=h
 unfold my mq
 have n1:=tN a.2.1 h1 (by omega)
 have n2:=tN a.2.2.1 h2 (by omega)
 have hzD:trimB a.2.2.1=true->(((a.2.2.1.length:Int))==0)=(nv a.2.2.1==0):=λht=>by
  have e:zO (nv a.2.2.1)=a.2.2.1:=pH h2 ((uk h2).1 ht)
  conv=>lhs; rw[<- e]
  rw[nR]
  cases q:decide (nv a.2.2.1=0)<;>simp_all
 have hzN:trimB a.2.1=true->(((a.2.1.length:Int))==0)=(nv a.2.1==0):=λht=>by
  have e:zO (nv a.2.1)=a.2.1:=pH h1 ((uk h1).1 ht)
  conv=>lhs; rw[<- e]
  rw[nR]
  cases q:decide (nv a.2.1=0)<;>simp_all
 have hg:=rq a.2.1 a.2.2.1 h1 h2 (by omega) (by omega)
 have rX:(jS 1).run=some (zO 1):=jV 1 (by omega)
 have hc:∀ g:Nat,(zO g).length<=100000001->(dw (zO g) (zO 1)).run=some (Vb g 1):=λg hl=>by
  have:=eT (zO g) (zO 1) (zy _) (zy _) (by omega) (by rw[ow]; simp)
  rwa [qf,qf]at this
 have head:∀ b:Bool,((T.bind (b4 a.2.1) λr=>.ite (!r) (.ret true) (T.bind (b4 a.2.2.1) λr1=>.ite (!r1) (.ret true) (.ite ((a.2.2.1.length:Int)==(0:Int)) (.ret true) (.ite a.1 (.ret ((a.2.1.length:Int)==(0:Int))) (.ret false))))):T Bool).run =
   some (!(trimB a.2.1&&(trimB a.2.2.1&&(!(nv a.2.2.1==0) && !(a.1&&(nv a.2.1==0)))))):=λ_=>by
  rw[z6 n1]
  cases t1:trimB a.2.1 with
  | false=>rfl
  | true =>
   rw[za (by rfl),z6 n2]
   cases t2:trimB a.2.2.1 with
   | false=>rfl
   | true =>
    rw[za (by rfl),hzD t2]
    cases nv a.2.2.1==0 with
    | true=>rfl
    | false =>
     rw[zh,hzN t1]
     cases a.1 with
     | true=>rw[zm,z7]; cases nv a.2.1==0<;>rfl
     | false=>rfl
 rw[z6 (head true)]
 cases hb:(trimB a.2.1&&(trimB a.2.2.1&&(!(nv a.2.2.1==0) && !(a.1&&(nv a.2.1==0)))))with
 | false =>
  rw[zc (by rfl),z7]
  congr 1
  generalize (Nat.gcd (nv a.2.1) (nv a.2.2.1)==1)=g
  revert hb
  cases trimB a.2.1<;>cases trimB a.2.2.1<;>cases(nv a.2.2.1==0)<;>cases a.1<;>cases(nv a.2.1==0)<;>simp
 | true =>
  rw[za (by rfl),z6 hg,z6 rX]
  have hle:(zO (Nat.gcd (nv a.2.1) (nv a.2.2.1))).length<=100000001:=by
   simp only[Bool.and_eq_true,Bool.not_eq_true',beq_eq_false_iff_ne]at hb
   have hd:0<nv a.2.2.1:=Nat.pos_of_ne_zero hb.2.2.1
   have m1:=sZ (Nat.gcd_le_right (nv a.2.1) hd)
   have m2:=q7 h2
   omega
  rw[z6 (hc _ hle),z7]
  congr 1
  have hgc:(Vb (Nat.gcd (nv a.2.1) (nv a.2.2.1)) 1==0)=(Nat.gcd (nv a.2.1) (nv a.2.2.1)==1):=by
   generalize Nat.gcd (nv a.2.1) (nv a.2.2.1)=g
   unfold Vb
   by_cases q1:g<1
   ·rw[if_pos q1]; simp; omega
   ·by_cases q2:1<g
    ·rw[if_neg q1,if_pos q2]; simp; omega
    ·have:g=1:=by omega
     subst this; rfl
  rw[hgc]
  revert hb
  generalize (Nat.gcd (nv a.2.1) (nv a.2.2.1)==1)=g
  cases trimB a.2.1<;>cases trimB a.2.2.1<;>cases(nv a.2.2.1==0)<;>cases a.1<;>cases(nv a.2.1==0)<;>simp
def hH(a:Rat):Bool:=decide (16<(norm a).2.1.length)||decide (16<(norm a).2.2.1.length)
theorem lW(a:Rat)(h:jo 100000000 a):(gL a).run=some (hH a):=by
 unfold gL hH
 rw[z6 (tV a h),z7]
 congr 2
 ·exact decide_eq_decide.2 (by omega)
 ·exact decide_eq_decide.2 (by omega)
def gW(a:Rat):Bool:=mq a&&(!a.1&&(!hH a&&(xV (norm a).1 (nv (norm a).2.1) (nv (norm a).2.2.1) 0 61).2))
def j9(a:Rat):Bool := !a.1&&(a.2.1.isEmpty&&(a.2.2.1.isEmpty||mq a))
def lX(k:Int):Int:=if k=1\/k=2 then 0 else if k=7 then 1 else if k=3\/k=4\/k=5\/k=6 then 2 else -1
def jA(e:Expr):Bool:=((e.kids.length:Int)==lX e.kind)&&(if e.kind=1 then gW e.num&&zk e.name []else if e.kind=2 then j9 e.num&&zJ e.name else j9 e.num&&zk e.name [])
mutual
def vR:Expr->Nat
 | .mk _ _ _ l=>1+jB l
def jB:List Expr->Nat
 | []=>0
 | e::r=>vR e+jB r
end
mutual
def uy(deep:Nat):Expr->Bool
 | .mk k n s l=>decide (deep<32)&&(jA (.mk k n s l)&&yT (deep+1) l)
def yT(deep:Nat):List Expr->Bool
 | []=>true
 | e::r=>uy deep e&&yT deep r
end
theorem tz:∀ (l:List Expr),l.length<=jB l
 | []=>Nat.le_refl _
 | .mk _ _ _ k::r=>by
  have:=tz r
  unfold jB vR
  simp only[List.length_cons]; omega
theorem tw{e:Expr}:∀ {l:List Expr},e∈l->vR e<=jB l
 | [],h=>by cases h
 | x::r,h=>by
  unfold jB
  rcases List.mem_cons.1 h with rfl | h
  ·omega
  ·have:=tw h; omega
mutual
/-- How many nodes are looked at. -/
def QH(deep:Nat):Expr->Nat
 | .mk k n s l=>1+if(decide (deep<32)&&jA (.mk k n s l))=true then cH (deep+1) l else 0
def cH(deep:Nat):List Expr->Nat
 | []=>0
 | e::r=>QH deep e+if uy deep e=true then cH deep r else 0
end
mutual
theorem HP:∀ (e:Expr) (deep:Nat),QH deep e<=vR e
 | .mk k n s l,deep=>by
  have:=ZO l (deep+1)
  unfold QH vR
  split<;>omega
theorem ZO:∀ (l:List Expr) (deep:Nat),cH deep l<=jB l
 | [],_=>Nat.le_refl _
 | e::r,deep=>by
  have h1:=HP e deep
  have h2:=ZO r deep
  unfold cH jB
  split<;>omega
end
mutual
theorem Ia:∀ (e:Expr),3*vR e<=szE e
 | .mk k n s l=>by
  have:=GX l
  unfold vR szE
  omega
theorem GX:∀ (l:List Expr),3*jB l<=szEs l
 | []=>Nat.le_refl _
 | e::r=>by
  have h1:=Ia e
  have h2:=GX r
  unfold jB szEs
  omega
end
def yh(a:Rat):Prop:=jo 100 a
mutual
def allOk:Expr->Prop
 | .mk _ n _ l=>yh n/\allOks l
def allOks:List Expr->Prop
 | []=>True
 | e::r=>allOk e/\allOks r
end
theorem ZB{l:List Expr}(h:allOks l):∀ e∈l,allOk e:=by
 induction l with
 | nil=>intro e he; cases he
 | cons x r ih =>
  intro e he
  rcases List.mem_cons.1 he with rfl | he
  ·exact h.1
  ·exact ih h.2 e he
theorem Kp(a:Rat)(h:yh a):(yI a).run=some (j9 a):=by
 unfold yI j9
 have hr:=mR a (Zu h (by omega))
 have e:∀ l:List Int,(((l.length:Int))==0)=l.isEmpty:=λl=>by cases l<;>simp; omega
 rw[e,e]
 cases a.1 with
 | true=>rfl
 | false =>
  rw[zc (by rfl)]
  cases a.2.1.isEmpty with
  | false=>rfl
  | true =>
   rw[zm]
   cases a.2.2.1.isEmpty with
   | true=>rfl
   | false=>rw[zh,z6 hr,z7]; rfl
theorem Cm(a:Rat)(h:yh a):(dR a).run=some (gW a):=by
 unfold dR gW
 have hr:=mR a (Zu h (by omega))
 have hl:=lW a (Zu h (by omega))
 have he:=lT a (Zu h (by omega))
 have head:((T.bind (my a) λr=>.ite (!r) (.ret true) (.ite a.1 (.ret true) (T.bind (gL a) λr1=>.ret r1))):T Bool).run=some (!(mq a&&(!a.1 && !hH a))):=by
  rw[z6 hr]
  cases mq a with
  | false=>rfl
  | true =>
   rw[za (by rfl)]
   cases a.1 with
   | true=>rfl
   | false=>rw[zh,z6 hl,z7]; simp
 rw[z6 head]
 cases q:(mq a&&(!a.1 && !hH a))with
 | false =>
  rw[zc (by rfl),z7]
  congr 1
  revert q
  cases mq a<;>cases a.1<;>cases hH a<;>simp
 | true =>
  rw[za (by rfl),z6 he]
  generalize xV (norm a).1 (nv (norm a).2.1) (nv (norm a).2.2.1) 0 61=x
  obtain⟨x1,x2⟩:=x
  dsimp only
  rw[z7]
  congr 1
  revert q
  cases mq a<;>cases a.1<;>cases hH a<;>simp
theorem Ee(k:Int):(iW k).run=some (lX k):=by
 unfold iW lX
 by_cases h1:k=1
 ·subst h1; rfl
 by_cases h2:k=2
 ·subst h2; rfl
 by_cases h7:k=7
 ·subst h7; rfl
 by_cases h3:k=3
 ·subst h3; rfl
 by_cases h4:k=4
 ·subst h4; rfl
 by_cases h5:k=5
 ·subst h5; rfl
 by_cases h6:k=6
 ·subst h6; rfl
 ·simp[h1,h2,h3,h4,h5,h6,h7]
theorem ZY(e:Expr)(h:yh e.num):(kb e).run=some (jA e):=by
 unfold kb jA
 rw[z6 (Ee _)]
 have hN:=Cm e.num h
 have h0:=Kp e.num h
 have hn:=xi e.name
 cases q:((e.kids.length:Int)==lX e.kind)with
 | false=>rw[zc (by rw[bne,q]; rfl),z7]; rfl
 | true =>
  rw[za (by rw[bne,q]; rfl),Bool.true_and]
  by_cases h1:e.kind=1
  ·rw[if_pos h1,zc (by rw[h1]; rfl),z6 hN]
   cases gW e.num with
   | true=>rw[zm,z7]; rfl
   | false=>rw[zh,z7]; rfl
  ·rw[if_neg h1,za (by simpa using h1)]
   by_cases h2:e.kind=2
   ·rw[if_pos h2,zc (by rw[h2]; rfl),z6 h0]
    cases j9 e.num with
    | true=>rw[zm,z6 hn,z7]; rfl
    | false=>rw[zh,z7]; rfl
   ·rw[if_neg h2,za (by simpa using h2),z6 h0]
    cases j9 e.num with
    | true=>rw[zm,z7]; rfl
    | false=>rw[zh,z7]; rfl
theorem Ol(e:Expr)(deep left:Nat)(h:allOk e)(hl:vR e<=left)(dF:left<=100000)(hd:deep<=32):(uL e (deep:Int) (left:Int)).run=some (uy deep e,((left-QH deep e:Nat):Int)):=by
 unfold uL
 refine V4 (λx:Expr×Int×Int=>allOk x.1/\0<=x.2.1/\x.2.1<=32/\(vR x.1:Int)<=x.2.2/\x.2.2<=100000) (λx=>vR x.1) (λx=>(uy x.2.1.toNat x.1,((x.2.2.toNat-QH x.2.1.toNat x.1:Nat):Int))) (λx hx g hg => ?_) (x:=(e,(deep:Int),(left:Int))) ⟨h,by dsimp only; omega,by dsimp only; omega,by dsimp only; omega,by dsimp only; omega⟩
 obtain⟨e,d,lf⟩:=x
 obtain⟨ha,L1,C8,hn,hlf⟩:=hx
 dsimp only at ha L1 C8 hn hlf
 obtain⟨D,rfl⟩:∃ D:Nat,d=(D:Int):=⟨d.toNat,by omega⟩
 obtain⟨L,rfl⟩:∃ L:Nat,lf=(L:Int):=⟨lf.toNat,by omega⟩
 cases e with | mk k n s kids =>
 obtain⟨Js,IV⟩:=ha
 have NY:vR (.mk k n s kids)=1+jB kids:=by unfold vR; rfl
 rw[NY]at hn
 have hv:=ZO kids (D+1)
 have ew:zZ ((L:Int)-1)=((L-1:Nat):Int):=by rw[zI (by omega) (by omega)]; omega
 have Dz:=ZY (.mk k n s kids) Js
 simp only[Int.toNat_natCast]
 unfold kT
 rw[ew]
 have head:((.ite (decide (((L-1:Nat):Int)<(0:Int))) (.ret (true,((L-1:Nat):Int))) (.ite (decide ((32:Int)<=(D:Int))) (.ret (true,((L-1:Nat):Int))) (T.bind (kb (.mk k n s kids)) λr=>.ret ((!r),((L-1:Nat):Int))))):T (Bool×Int)).run =
   some (!(decide (D<32)&&jA (.mk k n s kids)),((L-1:Nat):Int)):=by
  rw[za (decide_eq_false (by omega))]
  by_cases c:D<32
  ·rw[za (decide_eq_false (by omega)),z6 Dz,z7,decide_eq_true c,Bool.true_and]
  ·rw[zc (decide_eq_true (by omega)),z7,decide_eq_false c]; rfl
 rw[z6 head]
 dsimp only
 unfold uy QH
 cases q:(decide (D<32)&&jA (.mk k n s kids))with
 | false =>
  rw[zc (by rfl),z7,if_neg (by simp),<- Bool.and_assoc,q,Bool.false_and]
 | true =>
  rw[za (by rfl),if_pos rfl,<- Bool.and_assoc,q,Bool.true_and]
  have hD:D<32:=by
   simp only[Bool.and_eq_true,decide_eq_true_eq]at q
   exact q.1
  have ed:zZ ((D:Int)+1)=((D+1:Nat):Int):=by rw[zI (by omega) (by omega)]; omega
  have loop:∃ z,(zA (λy0 y1 y2=>g (y0,y1,y2)) kids (kids.length:Int) (((D:Int),()),((0:Int),((L-1:Nat):Int)))).run=some z /\
    ((yT (D+1) kids=true/\z=.inl ((L-1-cH (D+1) kids:Nat):Int))\/(yT (D+1) kids=false/\∃ i:Int,0<=i/\z=.inr (i,((L-1-cH (D+1) kids:Nat):Int)))):=by
   refine T.xW (r:=zo (λy0 y1 y2=>g (y0,y1,y2)) kids (kids.length:Int)) (λst:(Int×Unit)×Int×Int=>∃ (j B:Nat),st=(((D:Int),()),(j:Int),(B:Int))/\j<=kids.length/\B<=100000/\jB (kids.drop j)<=B /\
    B-cH (D+1) (kids.drop j)=L-1-cH (D+1) kids/\yT (D+1) (kids.drop j)=yT (D+1) kids) (λst=>kids.length-st.2.1.toNat) _ (λst xm => ?_) ⟨0,L-1,rfl,by omega,by omega,by rw[List.drop_zero]; omega,by rw[List.drop_zero],by rw[List.drop_zero]⟩
   obtain⟨j,B,rfl,hj,hB,hnB,S7,WY⟩:=xm
   by_cases c:j<kids.length
   ·have Rv:kids.drop j=kids[j]::kids.drop (j+1):=List.drop_eq_getElem_cons c
    rw[Rv]at hnB S7 WY
    rw[show jB (kids[j]::kids.drop (j+1))=vR kids[j]+jB (kids.drop (j+1))from rfl]at hnB
    rw[show cH (D+1) (kids[j]::kids.drop (j+1))=QH (D+1) kids[j]+if uy (D+1) kids[j]=true then cH (D+1) (kids.drop (j+1))else 0 from rfl]at S7
    rw[show yT (D+1) (kids[j]::kids.drop (j+1))=(uy (D+1) kids[j]&&yT (D+1) (kids.drop (j+1)))from rfl]at WY
    have o9:=ZB IV _ (List.getElem_mem c)
    have Br:=HP kids[j] (D+1)
    have RZ:vR kids[j]<1+jB kids:=by have:=tw (List.getElem_mem c); omega
    have Q6:=hg (kids[j],((D+1:Nat):Int),(B:Int)) ⟨o9,by dsimp only; omega,by dsimp only; omega,by dsimp only; omega,by dsimp only; omega⟩ (by dsimp only; rw[NY]; exact RZ)
    dsimp only at Q6
    simp only[Int.toNat_natCast]at Q6
    have hf:(ui (λy0 y1 y2=>g (y0,y1,y2)) kids[j] (D:Int) (B:Int)).run=some (!uy (D+1) kids[j],((B-QH (D+1) kids[j]:Nat):Int)):=by
     unfold ui
     rw[ed,z6 Q6]; rfl
    unfold zo
    dsimp only
    rw[zc (ma c),zd (vC c),oR c,z6 hf]
    dsimp only
    cases hk:uy (D+1) kids[j]with
    | true =>
     left
     rw[hk,if_pos rfl]at S7
     rw[hk,Bool.true_and]at WY
     rw[za (by rfl),z7]
     have hlen:=tz kids
     rw[K5 j _ c (by omega)]
     refine⟨_,rfl,⟨j+1,B-QH (D+1) kids[j],rfl,c,by omega,by omega,by omega,WY⟩,?_⟩
     simp only[Int.toNat_natCast]
     omega
    | false =>
     right
     rw[hk,if_neg (by simp),Nat.add_zero]at S7
     rw[hk,Bool.false_and]at WY
     rw[zc (by rfl),z7]
     exact⟨_,rfl,.inr ⟨WY.symm,(j:Int),by omega,by rw[S7]⟩⟩
   ·right
    have hj2:j=kids.length:=by omega
    subst hj2
    rw[List.drop_length]at S7 WY
    unfold zo
    dsimp only
    rw[za (pE _),z7]
    exact⟨_,rfl,.inl ⟨WY.symm,by rw[<- S7]; rfl⟩⟩
  obtain⟨z,hz,hc⟩:=loop
  have hcf:(zD (λy0 y1 y2=>g (y0,y1,y2)) kids ((D:Int),()) ((L-1:Nat):Int)).run=some (!yT (D+1) kids,((L-1-cH (D+1) kids:Nat):Int)):=by
   unfold zD qk
   rcases hc with⟨ho,rfl⟩ | ⟨ho,i,hi,rfl⟩
   ·have:((T.bind (zA (λy0 y1 y2=>g (y0,y1,y2)) kids (kids.length:Int) (((D:Int),()),((0:Int),((L-1:Nat):Int))))<|Sum.elim (λv2=>.ret ((-1:Int),v2)) (λ(x2,v3)=>.ret (x2,v3))):T (Int×Int)).run=some (-1,((L-1-cH (D+1) kids:Nat):Int)):=by
     rw[z6 hz]; rfl
    rw[z6 this,ho]; rfl
   ·have:((T.bind (zA (λy0 y1 y2=>g (y0,y1,y2)) kids (kids.length:Int) (((D:Int),()),((0:Int),((L-1:Nat):Int))))<|Sum.elim (λv2=>.ret ((-1:Int),v2)) (λ(x2,v3)=>.ret (x2,v3))):T (Int×Int)).run=some (i,((L-1-cH (D+1) kids:Nat):Int)):=by
     rw[z6 hz]; rfl
    rw[z6 this,ho,z7,decide_eq_true hi]; rfl
  rw[show Expr.kids (.mk k n s kids)=kids from rfl,z6 hcf]
  dsimp only
  rw[z7,Bool.not_not]
  congr 3
  omega
theorem RJ(e:Expr)(h:allOk e)(hn:vR e<=256):(vI e).run=some (uy 0 e):=by
 unfold vI
 have:=Ol e 0 256 h hn (by omega) (by omega)
 have this:(uL e 0 256).run=some (uy 0 e,((256-QH 0 e:Nat):Int)):=this
 rw[z6 this]; rfl
def dd(acc:List zf)(xs:List zf):List zf:=xs.foldl (λb x=>if x∈b then b else b++[x]) acc
end Go.AM.Lf
namespace Go.AM.PL
def pw:zf->List zf×zf
 | []=>([],[])
 | b::r=>if b=10 then([]::(pw r).1,(pw r).2)else match(pw r).1 with
  | []=>([],b::(pw r).2)
  | l::ls=>((b::l)::ls,(pw r).2)
end Go.AM.PL
namespace Go.AM.Lf
open PL
def Iz(u:zf):Option Rat:=if 400<u.length then none else(oF u).map λp=>jz (List.isPrefixOf [45] u) p.1 p.2
theorem Ox{u:zf}{r:Rat}(h:Iz u=some r):jo 50 r:=by
 unfold Iz at h
 split at h
 ·cases h
 ·rename_i c
  obtain⟨p,hp,rfl⟩:=Option.map_eq_some_iff.1 h
  exact pN _ (by omega) hp
def TP(t:zf):Option Tg:=match Iz (wm t [32]).2.1 with
 | some r=>if zJ (wm t [32]).1=true then some ((wm t [32]).1,r,())else none
 | none=>none
def EY:List zf->Option (List Tg)
 | []=>some []
 | t::r=>match TP t with
  | some x=>(EY r).map (x :: ·)
  | none=>none
theorem dm{s:zf}(h:zJ s=true):s.length<=24/\s.all je=true:=by
 cases s with
 | nil=>cases h
 | cons b r =>
  unfold zJ at h
  simp only[Bool.and_eq_true,decide_eq_true_eq]at h
  exact⟨h.1,h.2.2⟩
theorem BJ(s:zf)(c:UInt8):(wm s [c]).1.length<=s.length/\(wm s [c]).2.1.length<=s.length:=by
 by_cases h:c∈s
 ·obtain⟨w,q,rfl,hw⟩:=tg h
  rw[nc c w q hw]
  simp only[List.length_append,List.length_cons]
  exact⟨by omega,by omega⟩
 ·rw[ba c s h]; simp
def z5b(l:List Tg):zf:=l.flatMap z0Z
def Q7(s:zf):List Tg×Int:=match EY (pw s).1 with
 | some ys=>if z5b ys=s then(ys,0)else([],2)
 | none=>([],2)
theorem EH(a:Rat)(h1:zu a.2.1)(h2:zu a.2.2.1):mq a=true↔norm a=a:=by
 unfold mq norm
 obtain⟨b,N,D,⟨⟩⟩:=a
 dsimp only at h1 h2 ⊢
 simp only[Bool.and_eq_true,Bool.not_eq_true',beq_eq_false_iff_ne,beq_iff_eq,Bool.and_eq_false_imp]
 constructor
 ·rintro⟨t1,t2,hd,hn,hg⟩
  have eN:zO (nv N)=N:=pH h1 ((uk h1).1 t1)
  have eD:zO (nv D)=D:=pH h2 ((uk h2).1 t2)
  unfold jz
  by_cases c:nv N=0
  ·rw[if_pos (.inl c)]
   rw[c,Nat.gcd_zero_left]at hg
   rw[c,qM]at eN
   rw[hg,ow]at eD
   cases b with
   | true=>exact absurd c (hn rfl)
   | false=>rw[<- eN,<- eD]
  ·rw[if_neg (by rintro(h | h); exact c h; exact hd h),hg,Nat.div_one,Nat.div_one,eN,eD]
 ·intro e
  unfold jz at e
  by_cases c:nv N=0\/nv D=0
  ·rw[if_pos c]at e
   simp only[Prod.mk.injEq,and_true]at e
   obtain⟨rfl,rfl,rfl⟩:=e
   refine⟨by rw[uk h1]; exact oJ,?_,by decide,by simp,by decide⟩
   rw[uk h2,<- ow]; exact iD _
  ·rw[if_neg c]at e
   simp only[Prod.mk.injEq,and_true,true_and]at e
   obtain⟨e1,e2⟩:=e
   simp only[not_or]at c
   have v1:nv N=nv N / Nat.gcd (nv N) (nv D):=by conv=>lhs; rw[<- e1,qf]
   refine⟨by rw[uk h1,<- e1]; exact iD _,by rw[uk h2,<- e2]; exact iD _,c.2,λ_=>c.1,?_⟩
   have hp:0<nv N:=Nat.pos_of_ne_zero c.1
   by_cases g:Nat.gcd (nv N) (nv D)=1
   ·exact g
   ·have hg0:0<Nat.gcd (nv N) (nv D):=Nat.gcd_pos_of_pos_left _ hp
    have:=Nat.div_lt_self hp (by omega:1<Nat.gcd (nv N) (nv D))
    omega
end Go.AM.Lf
