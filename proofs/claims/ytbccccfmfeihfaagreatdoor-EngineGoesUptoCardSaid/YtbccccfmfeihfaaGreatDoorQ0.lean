/-
  Plain laws of the lifted program, part 0.
-/
import Derived.Test.YtbccccfmfeihfaaGreatDoorLf1
import Derived.Test.YtbccccfmfeihfaaGreatDoorAmA
import Derived.Test.YtbccccfmfeihfaaGreatDoorAmD
import Derived.KernelRfl
set_option linter.unusedVariables false
open Int renaming toNat_natCast -> zA, eq_ofNat_of_zero_le -> qN, tdiv -> xI, tmod -> xJ
open Nat renaming mul_le_mul_right -> Y, mul_comm -> zE, pow_succ -> zF, lt_of_le_of_lt -> zG, le_refl -> zJ, mul_le_mul_left -> zK, gcd -> zL, div_lt_iff_lt_mul -> zM, le_div_iff_mul_le -> zN, pos_of_ne_zero -> zO, le_trans -> zQ, pow_pos -> zT, lt_of_mul_lt_mul_right -> zU, mod_lt -> zV, strongRecOn -> zX, pow_le_pow_right -> zZ, pow_add -> qA, eq_zero_or_pos -> qB, div_add_mod -> qC, mul_lt_mul_of_pos_right -> qD, add_comm -> qG, add_zero -> qH, div_eq_of_lt -> qI, mul_assoc -> qJ, div_le_self -> qK, xor_lt_two_pow -> qM, mul_add -> qO, div_div_eq_div_mul -> qQ, mod_eq_of_lt -> qS, div_mul_le_self -> qV, mul_le_mul -> qX, mul_lt_mul_of_lt_of_le -> qY, eq_of_mul_eq_mul_left -> qZ, or_lt_two_pow -> xA, zero_le -> xB, add_assoc -> xC, and_le_left -> xE, gcd_le_left -> xF, mul_mod_mul_right -> xH
open List renaming replicate -> M, eq_nil_of_length_eq_zero -> U, take_of_length_le -> zI, getD_eq_getElem?_getD -> zP, take_set_of_le -> zS, length_replicate -> zW, take_succ_eq_append_getElem -> zY, drop_drop -> qE, drop_zero -> qF, mem_singleton -> qL, getElem?_eq_none -> qR, length_pos_iff -> qT, replicate_succ -> qU, getElem?_take -> qW, length_eq_zero_iff -> xD, sizeOf_lt_of_mem -> xG, drop -> xK, mem_cons -> xL
open BitVec renaming ofInt -> zH
open SizeOf renaming sizeOf -> zR
open Go.IntKind renaming wrap -> qP
open Sum renaming elim -> xM
open Go.AM.T (Hn ID Jz Vs W8 WE XI bq fP gn je lh pI tD vP vS wg xj zay zx)
namespace Go.AM.PL
def nv:List Int->Nat
 | []=>0
 | x::l=>x.toNat+4294967296*nv l
def qi(l:List Int):Prop:=∀ x∈l,0<=x/\x<4294967296
def vf(n:Nat):List Int:=if h:n=0 then[]else((n % 4294967296:Nat):Int)::vf (n / 4294967296)
termination_by n
decreasing_by omega
theorem kH:vf 0=[]:=by rw[vf]; rfl
theorem WI{n:Nat}(h:n≠0):vf n=((n % 4294967296:Nat):Int)::vf (n / 4294967296):=by rw[vf,dif_neg h]
theorem wE:qi []:=λ_ h=>nomatch h
theorem kf{x:Int}{l:List Int}:qi (x::l)↔(0<=x/\x<4294967296)/\qi l:=by
 unfold qi; simp
theorem Qd{a b:List Int}:qi (a++b)↔qi a/\qi b:=by
 unfold qi; simp
 grind
theorem Qe{a:List Int}(h:qi a)(n:Nat):qi (a.take n):=λx N=>h x (List.mem_of_mem_take N)
theorem mn{a:List Int}(h:qi a)(n:Nat):qi (a.drop n):=λx N=>h x (List.mem_of_mem_drop N)
theorem vo(n:Nat):qi (M n 0):=λx N=>by
 grind
theorem Ka{a:List Int}(h:qi a)(i:Nat){x:Int}(h0:0<=x)(h1:x<4294967296):qi (a.set i x):=λy hy=>by
 rcases List.mem_or_eq_of_mem_set hy with h' | h'
 ·exact h y h'
 ·grind
theorem dY{a:List Int}(h:qi a)(i:Int):0<=nth a i 0/\nth a i 0<4294967296:=by
 unfold nth
 rw[zP]
 cases N:a[i.toNat]? with
 | none=>simp
 | some x=>exact h x (List.mem_of_getElem? N)
theorem xk(n:Nat):qi (vf n):=by
 induction n using zX with
 | _ n ih =>
  by_cases h:n=0
  ·subst h; rw[kH]; exact wE
  ·rw[WI h]
   exact kf.2 ⟨Z,ih _ (Z)⟩
@[simp] theorem MA:nv []=0:=rfl
@[simp] theorem Qn(x:Int)(l:List Int):nv (x::l)=x.toNat+4294967296*nv l:=rfl
@[simp] theorem vK(n:Nat):nv (vf n)=n:=by
 induction n using zX with
 | _ n ih =>
  by_cases h:n=0
  ·subst h; rw[kH]; rfl
  ·rw[WI h,Qn,ih _ (Z)]; omega
theorem mv(a b:List Int):nv (a++b)=nv a+4294967296 ^ a.length*nv b:=by
 induction a with
 | nil=>simp
 | cons x a ih=>simp only[List.cons_append,Qn,ih,List.length_cons,zF,qO]; rw[<- qJ,zE 4294967296 (4294967296 ^ a.length)]; omega
theorem QW{l:List Int}(h:qi l):nv l<4294967296 ^ l.length:=by
 induction l with
 | nil=>simp
 | cons x l ih =>
  have h':=kf.1 h
  have:=ih h'.2
  simp
  omega
@[simp] theorem z9Z(n:Nat):nv (M n 0)=0:=by
 induction n with
 | zero=>rfl
 | succ n ih=>simp[qU,ih]
def Wg(l:List Int):Prop:=∀ x,l.getLast? = some x->x≠0
theorem HA{x:Int}{l:List Int}(h:Wg (x::l)):Wg l:=by
 cases l with
 | nil=>nofun
 | cons y l=>intro z hz; exact h z (wb)
theorem MB{l:List Int}(h:qi l)(ht:Wg l)(hn:l≠[]):nv l≠0:=by
 induction l with
 | nil=>grind
 | cons x l ih =>
  have h':=kf.1 h
  cases l with
  | nil =>
   have:=ht x rfl
   simp; omega
  | cons y l =>
   have:=ih h'.2 (HA ht) (qp)
   rw[Qn]; omega
theorem H0{l:List Int}(h:qi l)(ht:Wg l):vf (nv l)=l:=by
 induction l with
 | nil=>exact kH
 | cons x l ih =>
  have h':=kf.1 h
  have h1:=ih h'.2 (HA ht)
  rw[WI (MB h ht (qp)),Qn]
  grind
theorem cr{n:Nat}:vf n=[]↔n=0:=by
 constructor
 ·intro h; rw[<- vK n,h]; rfl
 ·rintro rfl; exact kH
theorem GZ(l:List Int):nv (l++[0])=nv l:=by simp[mv]
theorem u7{n k:Nat}:(vf n).length<=k↔n<4294967296 ^ k:=by
 induction k generalizing n with
 | zero =>
  simp only[Nat.le_zero_eq,xD,cr]; omega
 | succ k ih =>
  by_cases h:n=0
  ·grind
  ·rw[WI h,List.length_cons,zF,Nat.add_le_add_iff_right,ih]
   grind
theorem MD{n k:Nat}:k<(vf n).length↔4294967296 ^ k<=n:=by
 have:=u7 (n:=n) (k:=k); omega
theorem wq{l:List Int}(h:qi l):(vf (nv l)).length<=l.length:=u7.2 (QW h)
theorem DR{a b:List Int}(i:Int)(h:(a.length:Int)<=i):nth (a++b) i 0=nth b (i-a.length) 0:=by
 unfold nth
 grind
theorem Z2(a:List Int)(i:Nat)(h:i<a.length):a.take (i+1)=a.take i++[nth a i 0]:=by
 rw[zY h]; simp[nth,h]
theorem Jc{a:List Int}{i:Nat}(h:i<a.length):nv (a.take (i+1))=nv (a.take i)+4294967296 ^ i*(nth a i 0).toNat:=by
 rw[Z2 a i h,mv]
 have:(a.take i).length=i:=by simp; omega
 simp[this]
theorem iU(a:List Int)(i:Nat)(h:i<=a.length):nv a=nv (a.take i)+4294967296 ^ i*nv (a.drop i):=by
 have:=mv (a.take i) (a.drop i)
 rw[List.take_append_drop]at this
 grind
theorem Ij{a:List Int}{i:Nat}(h:i<a.length):nv (a.drop i)=(nth a i 0).toNat+4294967296*nv (a.drop (i+1)):=by
 rw[List.drop_eq_getElem_cons h,Qn]; simp[nth,h]
theorem Y1{α:Type}(a:List α)(i j:Nat)(x:α)(h:j<=i):(a.set i x).take j=a.take j:=by
 rw[zS h]
theorem Vt(a:List Int)(i:Nat)(x:Int)(h:i<a.length):(a.set i x).take (i+1)=a.take i++[x]:=by
 rw[Z2 _ _ (wb),zS (zJ _)]
 simp[nth,h]
theorem cL(a:List Int)(i:Nat)(x:Int):(a.set i x).drop (i+1)=a.drop (i+1):=by
 rw[List.drop_set_of_lt (Z)]
end Go.AM.PL
namespace Go.AM.T
variable {σ ρ:Type}
theorem cJ{r:σ->T (σ⊕ρ)}(hb:σ->Prop)(μ:σ->Nat)(Q:ρ->Prop)
  (h:∀ s,hb s->(∃ s',(r s).run=some (.inl s')/\hb s'/\μ s'<μ s)\/(∃ x,(r s).run=some (.inr x)/\Q x)) {s:σ} (hs:hb s):∃ x,(loop r s).run=some x/\Q x:=by
 generalize hm:μ s=m
 induction m using zX generalizing s with
 | _ m ih =>
  rcases h s hs with⟨s',h1,X,h3⟩ | ⟨x,h1,X⟩
  ·rw[WE h1]
   grind
  ·exact⟨x,pI h1,X⟩
end Go.AM.T
namespace Go.AM.PL
def lm(a:List Int)(i:Nat):Nat:=(nth a (i:Int) 0).toNat
theorem bV{a:List Int}(h:qi a)(i:Nat):lm a i<4294967296:=by have:=dY h i; unfold lm; omega
theorem bH{a:List Int}(h:qi a)(i:Nat):nth a (i:Int) 0=(lm a i:Int):=by have:=dY h i; unfold lm; omega
theorem mT{a:List Int}(h:qi a)(i:Nat):wm a i 0=(lm a i:Int):=by have:=bH h i; unfold nth at this; unfold wm; simpa using this
theorem zbB{a:List Int}{i:Nat}(h:a.length<=i):lm a i=0:=by
 unfold lm nth; simp[qR h]
theorem wF(a:List Int)(i:Nat):nv (a.take (i+1))=nv (a.take i)+4294967296 ^ i*lm a i:=by
 by_cases h:i<a.length
 ·exact Jc h
 ·rw[zbB (Z),zI (Z),zI (Z)]; simp
theorem jL{a:List Int}{i:Nat}(h:a.length<=i):nv (a.take i)=nv a:=by rw[zI h]
theorem Kb{a:List Int}{i j:Nat}{x:Int}(h:i<a.length):lm (a.set i x) j=if i=j then x.toNat else lm a j:=by
 unfold lm nth
 grind
theorem DS{a:List Int}{i:Nat}(x:Int)(h:i<a.length):nv (a.set i x)+4294967296 ^ i*lm a i=nv a+4294967296 ^ i*x.toNat:=by
 have h1:=iU (a.set i x) (i+1) (wb)
 have X:=iU a (i+1) (Z)
 rw[cL,Vt a i x h,mv]at h1
 rw[wF]at X
 have h3:(a.take i).length=i:=by simp; omega
 rw[h3]at h1
 simp at h1
 omega
theorem tx{a:List Int}{i:Nat}(x:Int)(h:i<a.length):nv ((a.set i x).take (i+1))=nv (a.take i)+4294967296 ^ i*x.toNat:=by
 rw[Vt a i x h,mv]
 have h3:(a.take i).length=i:=by simp; omega
 rw[h3]; simp
theorem Ix(i:Nat):0<4294967296 ^ i:=wb
theorem cq{a:List Int}(h:qi a)(i:Nat):nv (a.take i)<4294967296 ^ i:=by
 have:=QW (Qe h i)
 have X:(4294967296:Nat) ^ (a.take i).length<=4294967296 ^ i:=zZ (Z) (wb)
 omega
def JS(a b:Nat):Int:=if a<b then -1 else if b<a then 1 else 0
theorem F6{r:Int->T (Int⊕(Unit⊕Int))}(x y:List Int)(N:qi x)(hy:qi y)(R:x.length=y.length)
  (h:∀ i:Nat,i<x.length->(r (i:Int)).run=some (if nth x i 0<nth y i 0 then .inr (.inr (-1))else if nth y i 0<nth x i 0 then .inr (.inr 1)else .inl ((i:Int)-1)))
  (h0:(r (-1)).run=some (.inr (.inl ()))):(T.loop r ((x.length:Int)-1)).run=some (if nv x<nv y then .inr (-1)else if nv y<nv x then .inr 1 else .inl ()):=by
 have key:∀ n:Nat,n<=x.length->(T.loop r ((n:Int)-1)).run=some (if nv (x.take n)<nv (y.take n)then .inr (-1)else if nv (y.take n)<nv (x.take n)then .inr 1 else .inl ()):=by
  intro n
  induction n with
  | zero=>intro _; simpa using pI h0
  | succ n ih =>
   intro hn
   have e1:((n+1:Nat):Int)-1=(n:Int):=Z
   rw[e1]
   have hr:=h n (Z)
   rw[bH N,bH hy]at hr
   have a1:=cq N n
   have a2:=cq hy n
   rw[wF,wF]
   rcases Nat.lt_trichotomy (lm x n) (lm y n)with c | c | c
   ·have hm:=zK (4294967296 ^ n) (show lm x n+1<=lm y n by omega)
    rw[qO]at hm
    rw[if_pos (Z)]at hr
    rw[if_pos (Z)]
    exact pI hr
   ·rw[if_neg (Z),if_neg (Z)]at hr
    rw[WE hr,ih (Z),c]
    simp
   ·have hm:=zK (4294967296 ^ n) (show lm y n+1<=lm x n by omega)
    rw[qO]at hm
    rw[if_neg (Z),if_pos (Z)]at hr
    rw[if_neg (Z),if_pos (Z)]
    exact pI hr
 have:=key x.length (zJ _)
 rw[List.take_length]at this
 rw[R,List.take_length,<- R]at this
 exact this
theorem Zq{A B:Nat}(h:(vf A).length<(vf B).length):A<B:=by
 have h1:=u7.1 (zJ (vf A).length)
 have X:=MD.1 h
 omega
end Go.AM.PL
namespace Go.AM.PL
theorem El(n:Nat)(h:n<18446744073709551616):qP .u64 (n:Int)=n:=jm (Z) (Z)
theorem QI(n:Nat)(h:n<4294967296):qP .u32 (n:Int)=n:=YK (Z) (Z)
theorem lL{n:Nat}(h:n<18446744073709551616):xr (n:Int)=n:=jm (Z) (Z)
theorem JI{n:Nat}(h:n<4294967296):jT (n:Int)=n:=YK (Z) (Z)
theorem kg{a:List Int}(h:qi a)(i:Nat){n:Nat}(h1:n<4294967296):qi (a.set i (n:Int)):=Ka h i (Z) (Z)
theorem EM{x y:Nat}(N:x<4294967296)(hy:y<4294967296):YR .u32 (x:Int) (y:Int)=((x &&& y:Nat):Int):=by
 show qP .u32 (((zH 32 (x:Int) &&& zH 32 (y:Int)).toNat:Nat):Int)=_
 have e:(zH 32 (x:Int) &&& zH 32 (y:Int)).toNat=x &&& y:=by
  grind
 rw[e]
 exact QI _ (zG xE N)
theorem Ji{x y:Nat}(N:x<4294967296)(hy:y<4294967296):Um .u32 (x:Int) (y:Int)=((x ||| y:Nat):Int):=by
 show qP .u32 (((zH 32 (x:Int) ||| zH 32 (y:Int)).toNat:Nat):Int)=_
 have e:(zH 32 (x:Int) ||| zH 32 (y:Int)).toNat=x ||| y:=by
  grind
 rw[e]
 exact QI _ (xA (n:=32) N hy)
theorem HG{x y:Nat}(N:x<4294967296)(hy:y<4294967296):Nf .u32 (x:Int) (y:Int)=((x ^^^ y:Nat):Int):=by
 show qP .u32 (((zH 32 (x:Int) ^^^ zH 32 (y:Int)).toNat:Nat):Int)=_
 have e:(zH 32 (x:Int) ^^^ zH 32 (y:Int)).toNat=x ^^^ y:=by
  grind
 rw[e]
 exact QI _ (qM (n:=32) N hy)
theorem RF{x y:Nat}(N:x<18446744073709551616)(hy:y<18446744073709551616):Um .u64 (x:Int) (y:Int)=((x ||| y:Nat):Int):=by
 show qP .u64 (((zH 64 (x:Int) ||| zH 64 (y:Int)).toNat:Nat):Int)=_
 have e:(zH 64 (x:Int) ||| zH 64 (y:Int)).toNat=x ||| y:=by
  grind
 rw[e]
 exact El _ (xA (n:=64) N hy)
theorem DY(x y m:Nat)(hy:y<2 ^ m):x*2 ^ m ||| y=x*2 ^ m+y:=by
 have:=Nat.shiftLeft_add_eq_or_of_lt hy x
 rw[Nat.shiftLeft_eq]at this
 grind
theorem zn4{x:Int}(h0:0<=x)(h1:x<4294967296):fS .u64 x 32=x*4294967296:=by
 have e:fS .u64 x 32=xr (x*4294967296):=rfl
 rw[e,jm (Z) (Z)]
theorem zdr{x y:Int}(h0:0<=x)(h1:x<4294967296)(X:0<=y)(h3:y<4294967296):Um .u64 (fS .u64 x 32) (xr y)=x*4294967296+y:=by
 rw[zn4 h0 h1,jm X (Z)]
 obtain⟨a,rfl⟩:=qN h0
 obtain⟨b,rfl⟩:=qN X
 have e:=RF (x:=a*4294967296) (y:=b) (Z) (Z)
 rw[DY a b 32 (wb)]at e
 grind
theorem z1X{x y:Int}(h0:0<=x)(h1:x<4294967296)(X:0<=y)(h3:y<4294967296):Um .u64 (fS .u64 x 32) y=x*4294967296+y:=by
 have:=zdr h0 h1 X h3
 rwa [jm X (Z)]at this
theorem zbY{x:Int}(h0:0<=x):j8 .u64 x 32=x / 4294967296:=by
 show Int.fdiv x 4294967296=_
 grind
theorem ZF{x y:Int}(h:0<=x):xI x y=x / y:=wb
theorem sI{x y:Int}(h:0<=x):xJ x y=x % y:=wb
theorem zg1{v:Nat}(h:v<4294967296):v / 2147483648=if v.testBit 31=true then 1 else 0:=wb
theorem Ly{v:Nat}(h:v<4294967296):v.testBit 31=decide (2147483648<=v):=wb
theorem zn7{x y b:Nat}(N:x<4294967296)(hy:y<4294967296)(I:b<=1) :
  jT (jT ((x:Int)-y)-b)=(((x+4294967296*(if x<y+b then 1 else 0))-y-b:Nat):Int):=by
 rw[sO,sO]
 grind
theorem z0M{x y b d:Nat}(N:x<4294967296)(hy:y<4294967296)(I:b<=1)(J:d=(x+4294967296*(if x<y+b then 1 else 0))-y-b) :
  j8 .u32 (Um .u32 (YR .u32 (Nf .u32 (4294967295:Int) x) y) (YR .u32 (Nf .u32 (4294967295:Int) (Nf .u32 x y)) (d:Int))) 31=if x<y+b then 1 else 0:=by
 have FF:d<4294967296:=by rw[J]; split<;>omega
 have e1:=HG (x:=4294967295) (y:=x) (Z) N
 have h1:4294967295 ^^^ x<4294967296:=qM (n:=32) (Z) N
 have e2:=EM h1 hy
 have X:(4294967295 ^^^ x) &&& y<4294967296:=zG xE h1
 have e3:=HG N hy
 have h3:x ^^^ y<4294967296:=qM (n:=32) N hy
 have e4:=HG (x:=4294967295) (y:=x ^^^ y) (Z) h3
 have h4:4294967295 ^^^ (x ^^^ y)<4294967296:=qM (n:=32) (Z) h3
 have e5:=EM h4 FF
 have h5:(4294967295 ^^^ (x ^^^ y)) &&& d<4294967296:=zG xE h4
 have e6:=Ji X h5
 have h6:=xA (n:=32) X h5
 have ec:(4294967295:Int)=((4294967295:Nat):Int):=rfl
 rw[ec,e1,e2,e3,e4,e5,e6]
 show Int.fdiv _ 2147483648=_
 rw[Int.fdiv_eq_ediv_of_nonneg _ (Z)]
 have e7:=zg1 h6
 have e8:(((((4294967295 ^^^ x) &&& y) ||| ((4294967295 ^^^ (x ^^^ y)) &&& d):Nat):Int)) / 2147483648=(((((4294967295 ^^^ x) &&& y) ||| ((4294967295 ^^^ (x ^^^ y)) &&& d)) / 2147483648:Nat):Int):=Z
 rw[e8,e7]
 have t1:(4294967295:Nat).testBit 31=true:=xo
 simp only[Nat.testBit_or,Nat.testBit_and,Nat.testBit_xor,t1,Ly N,Ly hy,Ly FF]
 by_cases c:x<y+b
 ·rw[if_pos c]at J ⊢
  by_cases p:2147483648<=x<;>by_cases q:2147483648<=y<;>by_cases r:2147483648<=d<;>simp[p,q,r]<;>omega
 ·rw[if_neg c]at J ⊢
  by_cases p:2147483648<=x<;>by_cases q:2147483648<=y<;>by_cases r:2147483648<=d<;>simp[p,q,r]<;>omega
end Go.AM.PL
namespace Go.AM.PL
def dgt(n:Nat):UInt8:=UInt8.ofNat (48+n % 10)
def dgz(n:Nat):q9:=if h:n=0 then[]else dgz (n / 10)++[dgt n]
termination_by n
decreasing_by omega
def pr(n:Nat):q9:=if n=0 then[48]else dgz n
theorem z15:dgz 0=[]:=by rw[dgz]; rfl
theorem z6U{n:Nat}(h:n≠0):dgz n=dgz (n / 10)++[dgt n]:=by rw[dgz,dif_neg h]
def rd(n:Nat):List Int:=if h:n=0 then[]else((48+n % 10:Nat):Int)::rd (n / 10)
termination_by n
decreasing_by omega
theorem WO:rd 0=[]:=by rw[rd]; rfl
theorem Hf{n:Nat}(h:n≠0):rd n=((48+n % 10:Nat):Int)::rd (n / 10):=by rw[rd,dif_neg h]
def Qu:Nat->Nat->List Int
 | 0,_=>[]
 | k+1,n=>((48+n % 10:Nat):Int)::Qu k (n / 10)
theorem Iy(k n:Nat):(Qu k n).length=k:=by
 induction k generalizing n with
 | zero=>rfl
 | succ k ih=>simp[Qu,ih]
theorem z4j(k n:Nat):Qu k (n % 10 ^ k)=Qu k n:=by
 induction k generalizing n with
 | zero=>rfl
 | succ k ih =>
  simp only[Qu]
  have e1:n % 10 ^ (k+1) % 10=n % 10:=Nat.mod_mod_of_dvd _ ⟨10 ^ k,by rw[zF,zE]⟩
  have e2:n % 10 ^ (k+1) / 10=n / 10 % 10 ^ k:=by rw[zF,zE,Nat.mod_mul_right_div_self]
  rw[e1,e2,ih]
theorem z4h(k n:Nat)(h:n / 10 ^ k≠0):rd n=Qu k n++rd (n / 10 ^ k):=by
 induction k generalizing n with
 | zero=>simp[Qu]
 | succ k ih =>
  have hn:n≠0:=by intro z; subst z; simp at h
  have e:n / 10 ^ (k+1)=n / 10 / 10 ^ k:=by rw[zF,zE,qQ]
  rw[e]at h ⊢
  rw[Hf hn,ih _ h]; rfl
theorem MP(k n:Nat)(h:n / 10 ^ k=0):∃ z,Qu k n=rd n++M z 48:=by
 induction k generalizing n with
 | zero=>simp at h; subst h; exact⟨0,by rw[WO]; rfl⟩
 | succ k ih =>
  have e:n / 10 ^ (k+1)=n / 10 / 10 ^ k:=by rw[zF,zE,qQ]
  rw[e]at h
  obtain⟨z,hz⟩:=ih _ h
  simp only[Qu]
  by_cases hn:n=0
  ·subst hn
   refine⟨z+1,?_⟩
   rw[hz]
   simp[WO,qU]
  ·exact⟨z,by rw[hz,Hf hn]; rfl⟩
def blk(n:Nat):List Int:=if h:n=0 then[]else Qu 9 (n % 1000000000)++blk (n / 1000000000)
termination_by n
decreasing_by omega
theorem Xe:blk 0=[]:=by rw[blk]; rfl
theorem Yn{n:Nat}(h:n≠0):blk n=Qu 9 (n % 1000000000)++blk (n / 1000000000):=by rw[blk,dif_neg h]
theorem z0L(n:Nat):∃ z,blk n=rd n++M z 48:=by
 induction n using zX with
 | _ n ih =>
  by_cases hn:n=0
  ·subst hn; exact⟨0,by rw[Xe,WO]; rfl⟩
  ·rw[Yn hn]
   have e:Qu 9 (n % 1000000000)=Qu 9 n:=z4j 9 n
   rw[e]
   by_cases h:n / 1000000000=0
   ·rw[h,Xe,List.append_nil]
    exact MP 9 n h
   ·obtain⟨z,hz⟩:=ih (n / 1000000000) (Z)
    refine⟨z,?_⟩
    rw[hz,<- List.append_assoc]
    congr 1
    exact(z4h 9 n h).symm
theorem z14(n:Nat):dgz n=kD (rd n).reverse:=by
 induction n using zX with
 | _ n ih =>
  by_cases hn:n=0
  ·subst hn; rw[z15,WO]; rfl
  ·rw[z6U hn,Hf hn,ih _ (Z)]
   simp only[List.reverse_cons,kD,List.map_append,List.map_cons,List.map_nil]
   congr 1
theorem zbV{n:Nat}(h:n≠0):rd n≠[]:=by rw[Hf h]; simp
theorem zas(n:Nat):∀ x,(rd n).getLast? = some x->x≠48:=by
 induction n using zX with
 | _ n ih =>
  intro x N
  by_cases hn:n=0
  ·subst hn; rw[WO]at N; cases N
  ·rw[Hf hn]at N
   by_cases X:n / 10=0
   ·rw[X,WO]at N
    simp at N; omega
   ·refine ih (n / 10) (Z) x ?_
    rw[<- N]
    cases hc:rd (n / 10)with
    | nil=>exact absurd hc (zbV X)
    | cons y l=>rw[List.getLast?_cons_cons]
end Go.AM.PL
namespace Go.AM.PL
theorem G8(q a b c:Nat):q*(a*c+b)=(q*a)*c+q*b:=wb
theorem z16(a b:Nat):(a+1)*b=a*b+b:=wb
theorem zcM(a b c:Nat):(a+b)*c=a*c+b*c:=wb
theorem FA{u2 u1 u0 v1 v2 q r:Nat}(hr:q*v1+r=u2*4294967296+u1)(h:q*v2<=r*4294967296+u0) :
  q*(v1*4294967296+v2)<=u2*18446744073709551616+u1*4294967296+u0:=by
 rw[G8]
 generalize q*v1=x at *
 generalize q*v2=y at *
 omega
theorem z1o{u2 u1 u0 v1 v2 q r:Nat}(hr:q*v1+r=u2*4294967296+u1)(h:r*4294967296+u0<q*v2) :
  u2*18446744073709551616+u1*4294967296+u0<q*(v1*4294967296+v2):=by
 rw[G8]
 generalize q*v1=x at *
 generalize q*v2=y at *
 grind
theorem z1p{zD oE q:Nat}(hV:0<oE)(h:zD<q*oE):zD / oE<q:=(zM hV).2 h
theorem LY{u2 u1 u0 v1 v2:Nat}(hv:0<v1)(hu0:u0<4294967296):(u2*18446744073709551616+u1*4294967296+u0) / (v1*4294967296+v2)<=(u2*4294967296+u1) / v1:=by
 rw[zN hv]
 have h:=qV (u2*18446744073709551616+u1*4294967296+u0) (v1*4294967296+v2)
 generalize (u2*18446744073709551616+u1*4294967296+u0) / (v1*4294967296+v2)=q at *
 have e:=G8 q v1 v2 4294967296
 rw[e]at h; omega
theorem T5{u2 u1 u0 v1 v2:Nat}(hv:2147483648<=v1)(FR:v2<4294967296)(h:u2*18446744073709551616+u1*4294967296+u0<(v1*4294967296+v2+1)*4294967296) :
  (u2*4294967296+u1)<=v1*4294967296+v2/\(u2*4294967296+u1) / v1<=4294967297:=by
 have h1:u2*4294967296+u1<=v1*4294967296+v2:=Z
 refine⟨h1,?_⟩
 rw[Nat.div_le_iff_le_mul (Z)]
 omega
theorem NT{zD oE D U3 V2 h2 zB q:Nat}(hU:zD=U3*D+h2)(hX:h2<D)(hV:oE=V2*D+zB)(hY:zB<D)(hVt:2147483648*4294967296<=V2)(hUV:zD<oE*4294967296)(hq:q=min (U3 / V2) 4294967295) :
  zD / oE<=q/\q<=zD / oE+1:=by
 have hD:0<D:=Z
 have hV2:0<V2:=Z
 have hVp:0<oE:=by rw[hV]; have:=Nat.mul_pos hV2 hD; omega
 constructor
 ·rw[hq,Nat.le_min]
  constructor
  ·rw[zN hV2]
   have h:=qV zD oE
   generalize zD / oE=z at *
   rw[hV,hU]at h
   have e:=G8 z V2 zB D
   rw[e]at h
   have X:(z*V2)*D<(U3+1)*D:=by 
    rw[z16]
    generalize z*V2*D=m at *
    generalize z*zB=m2 at *
    omega
   exact Nat.lt_succ_iff.1 (zU X)
  ·have:zD / oE<4294967296:=(zM hVp).2 (by rw[zE]; exact hUV)
   omega
 ·have h3:q<=U3 / V2:=Z
  have h4:q<=4294967295:=Z
  have h5:q*V2<=U3:=(zN hV2).1 h3
  cases q with
  | zero=>exact xB _
  | succ q =>
   have:q<=zD / oE:=by
    rw[zN hVp,hV,hU]
    have e:=G8 q V2 zB D
    have e2:=z16 q V2
    have h6:(q*V2+V2)*D<=U3*D:=Y D (Z)
    have e3:=zcM (q*V2) V2 D
    have h7:q*zB<=4294967295*D:=qX (Z) (Z)
    have h8:4294967295*D<=V2*D:=Y D (Z)
    rw[e]; omega
   omega
end Go.AM.PL
namespace Go.AM.Lf
open PL
@[simp] theorem bA:zb (.int .u32)=(0:Int):=rfl
theorem Ii(l:List Int)(x:Int):nth (l++[x]) ((l++[x]).length-1:Int) 0=x:=by
 rw[DR _ (qp)]; simp[nth]
theorem bP(a:List Int)(h:qi a)(R:a.length<=4000000000):(ue a).run=some (vf (nv a)):=by
 have key:(XQ a).run=some (vf (nv a)):=by
  unfold XQ
  refine XI (λa=>qi a/\a.length<=4000000000) (λa=>a.length) (λa=>vf (nv a)) ?_ ⟨h,R⟩
  rintro s ⟨h1,X⟩
  rcases List.eq_nil_or_concat s with rfl | ⟨l,x,rfl⟩
  ·right; simp[tw,Qh,kH]
  ·rw[List.concat_eq_append]at *
   have N:=Ii l x
   have hlen:(l++[x]).length=l.length+1:=qp
   have hw:qj (((l++[x]).length:Int)-1)=((l++[x]).length:Int)-1:=qo (Z) (Z)
   have hIs:(Qh (l++[x])).run=some (x != 0):=by
    unfold Qh
    rw[xj]
    ·simp only[hw,bA,N,wg]
     congr 1
     have:(((l++[x]).length:Int)==0)=false:=by simp; omega
     rw[this]; rfl
    ·intro _; rw[hw]; exact⟨Z,Z⟩
   unfold tw
   rw[zx hIs]
   by_cases Yw:x=0
   ·left
    subst Yw
    refine⟨l,?_,⟨(Qd.1 h1).1,Z⟩,Z,by rw[GZ]⟩
    have hc:uI (e:=.int .u32) 0 (((l++[(0:Int)]).length:Int)-1) (l++[0])=l:=by
     unfold uI; simp
    rw[hw,hc]
    simp only[bne_self_eq_false,Bool.not_false,Jz]
    rw[W8 _ (Z) (Z) (Z),wg]
   ·right
    have I:(x != 0)=true:=by simpa using Yw
    rw[I]
    simp only[Bool.not_true,Vs,wg]
    rw[H0 h1]
    intro y hy
    simp at hy; omega
 unfold ue
 rw[zx key,wg]
theorem SM(a:List Int)(R:a.length<=4000000000):(yl a).run=some a:=by
 unfold yl
 rw[xj]
 ·cases a with
  | nil=>simp
  | cons x a=>simp only[List.length_cons]at R; simp(disch:=omega)
 ·rintro rfl r hr
  first
  | simpa[T.leads]using hr
  | (obtain⟨_,_,hr⟩:=hr; simpa[T.leads]using hr)
theorem Z5(a:List Int)(h:qi a)(R:a.length<=4000000000):(iQ a).run=some (vf (nv a)):=by
 unfold iQ
 rw[zx (bP a h R),zx (SM _ (zQ (wq h) R)),wg]
theorem VV(n:Nat)(h:n<18446744073709551616):(iL (n:Int)).run=some (vf n):=by
 have e2:jT (j8 .u64 (n:Int) 32)=((n / 4294967296:Nat):Int):=by rw[zbY (Z),sO]; omega
 have e1:jT (n:Int)=((n % 4294967296:Nat):Int):=by rw[sO]; omega
 have h1:qi [((n % 4294967296:Nat):Int),((n / 4294967296:Nat):Int)]:=by
  intro x N; simp only[xL,List.not_mem_nil,or_false]at N; rcases N with rfl | rfl<;>omega
 have X:=bP _ h1 (qp)
 have h3:nv [((n % 4294967296:Nat):Int),((n / 4294967296:Nat):Int)]=n:=by simp only[Qn,MA]; omega
 unfold iL
 rw[lh _ (Z),e1,e2,zx X,h3,wg]
theorem KJ(a b:List Int)(ha:qi a)(I:qi b)(la:a.length<=1000000000)(lb:b.length<=1000000000):(tq a b).run=some (JS (nv a) (nv b)):=by
 unfold tq
 rw[zx (bP a ha (Z)),zx (bP b I (Z))]
 have qa:=wq ha
 have qb:=wq I
 generalize nv a=A at *
 generalize nv b=B at *
 by_cases R:(vf A).length=(vf B).length
 ·rw[R,bne_self_eq_false,Vs]
  have key:=F6 (r:=rW (vf A) (vf B)) (vf A) (vf B) (xk A) (xk B) R (λi hi => ?_) ?_
  ·rw[<- R,qo (Z) (Z)]
   unfold GX
   rw[zx key,vK,vK]
   unfold JS
   by_cases p:A<B
   ·simp[p]
   ·by_cases q:B<A<;>simp[p,q]
  ·have e:qj ((i:Int)-1)=(i:Int)-1:=qo (Z) (Z)
   unfold rW
   have Yu:i<(vf B).length:=Z
   have x1:=bH (xk A) i
   have x2:=bH (xk B) i
   rcases Nat.lt_trichotomy (lm (vf A) i) (lm (vf B) i)with c | c | c
   ·have c2:¬ (lm (vf A) i=lm (vf B) i):=Z
    simp(disch:=omega) [e,x1,x2,c,c2,hi,Yu]<;>omega
   ·simp(disch:=omega) [e,x1,x2,c,hi,Yu]
   ·have c2:¬ (lm (vf A) i=lm (vf B) i):=Z
    have c3:¬ (lm (vf A) i<lm (vf B) i):=Z
    simp(disch:=omega) [e,x1,x2,c,c2,c3,hi,Yu]<;>omega
  ·simp[rW]
 ·rw[vP (by simp; omega)]
  unfold JS
  by_cases c:(vf A).length<(vf B).length
  ·have:=Zq c
   simp[c,this]
  ·have X:=Zq (show(vf B).length<(vf A).length by omega)
   have h3:¬ A<B:=Z
   simp[c,X,h3]
theorem FY(n:Nat):jT (n:Int)=((n % 4294967296:Nat):Int):=by rfl
theorem Gg(n:Nat):j8 .u64 (n:Int) 32=((n / 4294967296:Nat):Int):=by rw[zbY (Z)]; omega
theorem i1(i:Nat)(h:i<=4000000000):qj ((i:Int)+1)=((i+1:Nat):Int):=by rw[qo (Z) (Z)]; omega
theorem im1(i:Nat)(h:i<=4000000000):qj (((i+1:Nat):Int)-1)=(i:Int):=by rw[qo (Z) (Z)]; omega
theorem Kf{x y:Nat}(N:x<4294967296)(hy:y<4294967296):x*y<=18446744065119617025:=qX (show x<=4294967295 by omega) (show y<=4294967295 by omega)
theorem mu(xs:List Int)(i:Nat)(x:Int)(j:Nat)(h:i≠j):lm (xs.set i x) j=lm xs j:=by
 by_cases hi:i<xs.length
 ·rw[Kb hi,if_neg h]
 ·rw[List.set_eq_of_length_le (Z)]
theorem UX{a:List Int}{i:Nat}(h:i<a.length):nv (a.drop i)=lm a i+4294967296*nv (a.drop (i+1)):=Ij h
theorem set_drop{a:List Int}{i:Nat}(x:Int)(h:i<a.length):nv ((a.set i x).drop i)=x.toNat+4294967296*nv (a.drop (i+1)):=by
 rw[UX (wb),cL,Kb h,if_pos rfl]
theorem SR{hi lo y:Nat}(h0:hi<y)(h1:lo<4294967296)(X:y<4294967296) :
  (eU (hi:Int) (lo:Int) (y:Int)).run=some ((((hi*4294967296+lo) / y:Nat):Int),(((hi*4294967296+lo) % y:Nat):Int)):=by
 have e1:=z1X (x:=(hi:Int)) (y:=(lo:Int)) (Z) (Z) (Z) (Z)
 have ey:xr (y:Int)=y:=jm (Z) (Z)
 have eh:xr (hi:Int)=hi:=jm (Z) (Z)
 have el:xr (lo:Int)=lo:=jm (Z) (Z)
 have hq:(hi*4294967296+lo) / y<4294967296:=by
  rw[zM (Z)]
  grind
 have hr:(hi*4294967296+lo) % y<y:=zV _ (Z)
 have e2:(hi:Int)*4294967296+(lo:Int)=((hi*4294967296+lo:Nat):Int):=Z
 have e3:xI ((hi*4294967296+lo:Nat):Int) (y:Int)=(((hi*4294967296+lo) / y:Nat):Int):=by rw[ZF (Z)]; rfl
 have e4:xJ ((hi*4294967296+lo:Nat):Int) (y:Int)=(((hi*4294967296+lo) % y:Nat):Int):=by rw[sI (Z)]; rfl
 unfold eU
 rw[je (wb)]
 simp only[ey,eh,el,e1,e2,e3,e4]
 rw[lh _ (Z),tD _ (Z),tD _ (Z),wg,lL (Z),JI hq,JI (Z)]
theorem MX{A Q r y l q:Nat}(h:A=Q*y+r)(hq:q=(r*4294967296+l) / y):l+4294967296*A=(q+4294967296*Q)*y+(r*4294967296+l) % y:=by
 have:=qC (r*4294967296+l) y
 grind
theorem Vi(a:List Int)(ha:qi a)(la:a.length<=1000000000)(y:Nat)(h0:0<y)(h1:y<4294967296):(pK a (y:Int)).run=some (vf (nv a / y),((nv a % y:Nat):Int)):=by
 have loop:∃ r:Int×List Int,(J9 a (y:Int) (0,(a.length:Int)-1,M a.length 0)).run=some r/\∃ m:Nat,r.1=(m:Int)/\m<y/\qi r.2/\r.2.length=a.length/\nv a=nv r.2*y+m:=by
  refine T.cJ (λs:Int×Int×List Int=>∃ (m i:Nat),s.1=(m:Int)/\s.2.1=(i:Int)-1/\m<y/\i<=a.length/\qi s.2.2/\s.2.2.length=a.length/\nv (a.drop i)=nv (s.2.2.drop i)*y+m)
   (λs=>(s.2.1+1).toNat) _ ?_ ⟨0,a.length,rfl,rfl,h0,zJ _,vo _,qp,qp⟩
  rintro⟨_,_,xs⟩ ⟨m,i,rfl,rfl,hm,hi,R,hn,hv⟩
  simp only at R hn hv ⊢
  cases i with
  | zero =>
   right
   refine⟨((m:Int),xs),?_,m,rfl,hm,R,hn,by simpa using hv⟩
   unfold pc
   simp
  | succ i =>
   left
   have N:=bV ha i
   have e1:((i+1:Nat):Int)-1=(i:Int):=Z
   have J:=SR hm N h1
   have hq:(m*4294967296+lm a i) / y<4294967296:=by
    rw[zM (Z)]
    grind
   have ei:qj ((i:Int)-1)=(i:Int)-1:=qo (Z) (Z)
   refine⟨((((m*4294967296+lm a i) % y:Nat):Int),(i:Int)-1,xs.set i (((m*4294967296+lm a i) / y:Nat):Int)),?_,⟨_,i,rfl,rfl,zV _ h0,Z,kg R _ hq,by simpa using hn,?_⟩,qp⟩
   ·unfold pc
    simp only[e1,bA,bH ha,ID,ei]
    rw[if_pos (qp),vS _ (Z) (Z),zx J]
    simp(disch:=omega) [hn]
   ·simp only
    rw[UX (Z),set_drop _ (Z),zA]
    exact MX hv rfl
 obtain⟨⟨_,xs⟩,hr,m,rfl,hm,R,hn,hv⟩:=loop
 simp only at R hn hv
 unfold pK
 rw[qo (Z) (Z)]
 simp only[zA,zW]
 rw[T.run_mk _ (Z) (Z) (Z) (Z),bq _ rfl rfl rfl,xj rfl,zx hr]
 simp only[Nat.zero_add,qF,List.take_length]
 have e1:nv a / y=nv xs:=by rw[hv,zE,Nat.mul_add_div h0,qI hm,qH]
 have e2:nv a % y=m:=by rw[hv,zE,Nat.mul_add_mod,qS hm]
 rw[xj rfl,zx (bP xs R (Z)),wg,e1,e2]
theorem E9{v s:Nat}(hv:v<4294967296)(hs:s<=32):fS .u64 (v:Int) (s:Int)=((v*2 ^ s:Nat):Int):=by
 have h1:2 ^ s<=2 ^ 32:=zZ (Z) hs
 have X:v*2 ^ s<=4294967295*4294967296:=qX (Z) h1
 have e:min (s:Int).toNat 64=s:=by simp; omega
 show xr ((v:Int)*2 ^ (min (s:Int).toNat 64))=_
 rw[e]
 have e2:(v:Int)*2 ^ s=((v*2 ^ s:Nat):Int):=qp
 rw[e2,lL (Z)]
theorem zeW{v s:Nat}(hs:s<=64):j8 .u64 (v:Int) (s:Int)=((v / 2 ^ s:Nat):Int):=by
 show Int.fdiv (v:Int) (2 ^ (min (s:Int).toNat 64))=_
 grind
theorem zeJ{h m s:Nat}(hh:h<2 ^ s):h ||| m*2 ^ s=h+m*2 ^ s:=by rw[Nat.or_comm,DY m h s hh,qG]
theorem Ih(v s:Nat)(hs:s<=32):v*2 ^ s % 4294967296=(v % 2 ^ (32-s))*2 ^ s:=by
 have e:(4294967296:Nat)=2 ^ (32-s)*2 ^ s:=by rw[<- qA]; rw[show 32-s+s=32 by omega]
 rw[e,xH]
theorem BY{h v s:Nat}(hh:h<2 ^ s)(hv:v<4294967296)(hs:s<32) :
  Um .u32 (h:Int) (jT ((v*2 ^ s:Nat):Int))=((h+v*2 ^ s % 4294967296:Nat):Int)/\h+v*2 ^ s % 4294967296<4294967296/\v*2 ^ s / 4294967296<2 ^ s:=by
 have e1:=Ih v s (Z)
 have e2:(v % 2 ^ (32-s))*2 ^ s+2 ^ s<=4294967296:=by
  have:v % 2 ^ (32-s)+1<=2 ^ (32-s):=zV _ (zT (Z))
  have:=Y (2 ^ s) this
  rw[<- qA,show 32-s+s=32 by omega]at this
  grind
 refine⟨?_,wb,?_⟩
 ·rw[FY,Ji (Z) (Z),e1,zeJ hh]
 ·rw[zM (Z),zE]
  exact Nat.mul_lt_mul_of_pos_left hv (zT (Z))
theorem GJ{h2 h P oE v t A:Nat}(hv:h2+h*P=oE*t)(hA:A=v*t):h2+P*(h+A % 4294967296)+A / 4294967296*(P*4294967296)=(oE+P*v)*t:=by
 have e:A=A % 4294967296+4294967296*(A / 4294967296):=Z
 grind
theorem BX(a:List Int)(ha:qi a)(la:a.length<=1000000000)(s n:Nat)(hs:s<32)(Gi:a.length<=n)(Dt:n<=a.length+1)(B3:nv a*2 ^ s<4294967296 ^ n) :
  ∃ r,(KM (s:Int) (n:Int) a (a.length:Int) (0,M n 0)).run=some r/\qi r/\r.length=n/\nv r=nv a*2 ^ s:=by
 refine T.cJ (λz:Int×List Int=>∃ i h:Nat,z.1=(i:Int)/\i<=a.length/\qi z.2/\z.2.length=n/\h<2 ^ s/\(i<n->lm z.2 i=h)/\nv (z.2.take i)+h*4294967296 ^ i=nv (a.take i)*2 ^ s)
  (λz=>a.length-z.1.toNat) _ ?_ ⟨0,0,rfl,Z,vo _,qp,zT (Z),λ_ => ?_,qp⟩
 ·rintro⟨_,xs⟩ ⟨i,h,rfl,hi,R,hn,hh,hli,hv⟩
  simp only at R hn hli hv ⊢
  by_cases wO:i<a.length
  ·left
   have N:=bV ha i
   obtain⟨s1,s2,s3⟩:=BY hh N hs
   have I:xr (lm a i:Int)=lm a i:=lL (Z)
   have hlx:=hli (Z)
   have hp:2 ^ s<=2 ^ 31:=zZ (Z) (Z)
   have e2:jT ((lm a i*2 ^ s / 4294967296:Nat):Int)=((lm a i*2 ^ s / 4294967296:Nat):Int):=JI (Z)
   by_cases K4:i+1<n
   all_goals have zhY:((i:Int)+1<(n:Int))↔(i+1<n):=Z
   ·refine⟨(((i+1:Nat):Int),(xs.set i ((h+lm a i*2 ^ s % 4294967296:Nat):Int)).set (i+1) ((lm a i*2 ^ s / 4294967296:Nat):Int)),?_,
     ⟨i+1,lm a i*2 ^ s / 4294967296,rfl,Z,kg (kg R _ s2) _ (Z),by simpa using hn,s3,λ_ => ?_,?_⟩,by simp; omega⟩
    ·unfold nE
     simp only[bA,bH ha,zA,Nat.zero_add,mT R,I,E9 N (show s<=32 by omega),hlx,s1,i1 i (Z),Gg,e2]
     simp(disch:=omega) [wO,hn,K4,zhY]
    ·simp only
     rw[Kb (by simp; omega),if_pos rfl,zA]
    ·simp only
     rw[Y1 _ _ _ _ (zJ _),tx _ (Z),wF,zA,zF]
     exact GJ hv rfl
   ·refine⟨(((i+1:Nat):Int),xs.set i ((h+lm a i*2 ^ s % 4294967296:Nat):Int)),?_,
     ⟨i+1,lm a i*2 ^ s / 4294967296,rfl,Z,kg R _ s2,by simpa using hn,s3,λ_=>Z,?_⟩,by simp; omega⟩
    ·unfold nE
     simp only[bA,bH ha,zA,Nat.zero_add,mT R,I,E9 N (show s<=32 by omega),hlx,s1,i1 i (Z),Gg,e2]
     simp(disch:=omega) [wO,hn,K4,zhY]
    ·simp only
     rw[tx _ (Z),wF,zA,zF]
     exact GJ hv rfl
  ·right
   have:i=a.length:=Z
   subst this
   refine⟨xs,?_,R,hn,?_⟩
   ·unfold nE
    simp
   ·rw[List.take_length]at hv
    by_cases q:n=a.length
    ·rw[jL (Z)]at hv
     rcases qB h with z | z
     ·grind
     ·have:=Y (4294967296 ^ a.length) z
      grind
    ·have ki:n=a.length+1:=Z
     have:=wF xs a.length
     rw[jL (Z),hli (Z),zE]at this
     omega
 ·show lm (M n 0) 0=0
  unfold lm nth
  cases n<;>simp[qU]
theorem DL(a:List Int)(ha:qi a)(la:a.length<=1000000000)(s n:Nat)(hs:s<32)(Gi:a.length<=n)(Dt:n<=a.length+1)(B3:nv a*2 ^ s<4294967296 ^ n) :
  ∃ r,(J7 a (s:Int) (n:Int)).run=some r/\qi r/\r.length=n/\nv r=nv a*2 ^ s:=by
 obtain⟨r,h1,X,h3,h4⟩:=BX a ha la s n hs Gi Dt B3
 refine⟨r,?_,X,h3,h4⟩
 unfold J7
 simp
 rw[T.run_mk _ (Z) (Z) (Z) (Z),bq _ rfl rfl rfl,xj rfl,zx h1]
 simp
theorem XN(a:List Int)(ha:qi a)(la:a.length<=1000000000)(s n:Nat)(hs:s<32)(Gi:a.length<=n)(Dt:n<=a.length+1)(B3:nv a*2 ^ s<4294967296 ^ n) :
  ∃ r,(rY a (s:Int) (n:Int)).run=some r/\qi r/\r.length=n/\nv r=nv a*2 ^ s:=by
 obtain⟨r,h1,X,h3,h4⟩:=BX a ha la s n hs Gi Dt B3
 refine⟨r,?_,X,h3,h4⟩
 have HO:(Vg (s:Int) (n:Int) a (a.length:Int) (0,M n 0)).run=some r:=h1
 unfold rY
 simp
 rw[T.run_mk _ (Z) (Z) (Z) (Z),bq _ rfl rfl rfl,xj rfl,zx HO]
 simp
theorem zmV{a b s:Nat}(hs:s<=32)(ha:a<2 ^ (32-s)):a ||| b*2 ^ (32-s)=a+b*2 ^ (32-s):=by rw[Nat.or_comm,DY b a (32-s) ha,qG]
theorem fJ(s:Nat)(h:s<=32):(4294967296:Nat)=2 ^ (32-s)*2 ^ s:=by rw[<- qA,show 32-s+s=32 by omega]
theorem zn5{v s:Nat}(hs:s<=32):v*4294967296 / 2 ^ s=v*2 ^ (32-s):=by
 rw[fJ s hs,<- qJ,Nat.mul_div_cancel _ (zT (Z))]
theorem zeX{v s:Nat}(hs:s<=32):v*2 ^ (32-s) / 4294967296=v / 2 ^ s:=by
 rw[fJ s hs,zE v,Nat.mul_div_mul_left _ _ (zT (Z))]
theorem zeY{v s:Nat}(hs:s<=32):v*2 ^ (32-s) % 4294967296=(v % 2 ^ s)*2 ^ (32-s):=by
 rw[fJ s hs,zE (2 ^ (32-s)),xH]
theorem zaB{oE v P s C:Nat}(hs:s<=32)(hC:C=oE / 2 ^ s):C+P*((v % 2 ^ s)*2 ^ (32-s))+P*4294967296*(v / 2 ^ s)=(oE+P*4294967296*v) / 2 ^ s:=by
 have hp:0<2 ^ s:=zT (Z)
 have e1:oE+P*4294967296*v=oE+(P*2 ^ (32-s)*v)*2 ^ s:=by
  have:P*4294967296*v=P*(2 ^ (32-s)*2 ^ s)*v:=by rw[<- fJ s hs]
  grind
 rw[e1,Nat.add_mul_div_right _ _ hp,hC]
 have e2:v=v % 2 ^ s+2 ^ s*(v / 2 ^ s):=by have:=qC v (2 ^ s); omega
 have e3:P*4294967296*(v / 2 ^ s)=P*(2 ^ (32-s)*2 ^ s)*(v / 2 ^ s):=by rw[<- fJ s hs]
 grind
theorem z4v(x:List Int)(N:qi x)(lx:x.length<=4000000000)(s:Nat)(hs:s<32) :
  ∃ r,(J4 (s:Int) x (x.length:Int) (0,M x.length 0)).run=some r/\qi r/\r.length=x.length/\nv r=nv x / 2 ^ s:=by
 refine T.cJ (λz:Int×List Int=>∃ i:Nat,z.1=(i:Int)/\i<=x.length/\qi z.2/\z.2.length=x.length/\(∀ j,i<=j->lm z.2 j=0)/\(∀ j,i=j+1->lm z.2 j=lm x j / 2 ^ s)/\nv (z.2.take i)=nv (x.take i) / 2 ^ s)
  (λz=>x.length-z.1.toNat) _ ?_ ⟨0,rfl,Z,vo _,qp,λj _ => ?_,λj h=>Z,qp⟩
 ·rintro⟨_,xs⟩ ⟨i,rfl,hi,R,hn,hz,hp,hv⟩
  simp only at R hn hz hp hv ⊢
  by_cases wO:i<x.length
  ·left
   have Dz:=bV N i
   have I:xr (lm x i:Int)=lm x i:=lL (Z)
   have h32:(32:Int)=((32:Nat):Int):=rfl
   have w1:j8 .u64 (fS .u64 (lm x i:Int) 32) (s:Int)=((lm x i*2 ^ (32-s):Nat):Int):=by
    rw[h32,E9 Dz (Z),zeW (Z),<- zn5 (Z)]
   have hq:lm x i / 2 ^ s<4294967296:=zG (qK _ _) Dz
   have w2:jT (j8 .u64 ((lm x i*2 ^ (32-s):Nat):Int) 32)=((lm x i / 2 ^ s:Nat):Int):=by rw[Gg,zeX (Z),JI hq]
   have w3:Um .u32 (wm xs i 0) ((lm x i / 2 ^ s:Nat):Int)=((lm x i / 2 ^ s:Nat):Int):=by
    rw[mT R,hz i (zJ _),Ji (Z) hq,Nat.zero_or]
   cases i with
   | zero =>
    refine⟨(1,xs.set 0 ((lm x 0 / 2 ^ s:Nat):Int)),?_,⟨1,rfl,Z,kg R _ hq,by simpa using hn,λj h => ?_,λj h => ?_,?_⟩,by simp; omega⟩
    ·have w3':=w3
     simp only[Int.natCast_zero]at *
     have Yw:nth x 0 0=(lm x 0:Int):=bH N 0
     unfold iP
     simp only[bA,Yw,zA,Nat.zero_add,I,w1,w2,w3]
     have zrs:Um .u32 (wm xs (Int.toNat 0) 0) ((lm x 0 / 2 ^ s:Nat):Int)=((lm x 0 / 2 ^ s:Nat):Int):=w3
     generalize lm x 0 / 2 ^ s=q at *
     simp only[zrs]
     simp(disch:=omega) [wO,hn]
    ·rw[mu _ _ _ _ (Z)]; exact hz j (Z)
    ·have:j=0:=Z
     subst this
     rw[Kb (Z),if_pos rfl,zA]
    ·simp only
     rw[tx _ (Z),wF]; simp only[zA,List.take_zero,MA,Nat.pow_zero,Nat.one_mul,Nat.zero_add]
   | succ i =>
    have Ey:=hp i rfl
    have zpJ:=bV N i
    have hq2:lm xs i<2 ^ (32-s):=by
     rw[Ey,zM (zT (Z)),<- fJ s (Z)]; exact zpJ
    have hq3:lm x (i+1)*2 ^ (32-s) % 4294967296=(lm x (i+1) % 2 ^ s)*2 ^ (32-s):=zeY (Z)
    have hq4:lm xs i+(lm x (i+1) % 2 ^ s)*2 ^ (32-s)<4294967296:=by
     have h1:lm x (i+1) % 2 ^ s+1<=2 ^ s:=zV _ (zT (Z))
     have X:=Y (2 ^ (32-s)) h1
     rw[zE (2 ^ s),<- fJ s (Z),Nat.add_mul]at X
     omega
    have hxi:=bV R i
    have w4:∀ ys:List Int,qi ys->lm ys i=lm xs i->Um .u32 (wm ys i 0) (jT ((lm x (i+1)*2 ^ (32-s):Nat):Int))=((lm xs i+(lm x (i+1) % 2 ^ s)*2 ^ (32-s):Nat):Int):=by
     intro ys hys he
     rw[mT hys,he,FY,Ji hxi (zV _ (Z)),hq3,zmV (Z) hq2]
    have w5:=w4 _ (kg R (i+1) hq) (mu _ _ _ _ (Z))
    refine⟨(((i+1+1:Nat):Int),(xs.set (i+1) ((lm x (i+1) / 2 ^ s:Nat):Int)).set i ((lm xs i+(lm x (i+1) % 2 ^ s)*2 ^ (32-s):Nat):Int)),?_,
     ⟨i+1+1,rfl,Z,kg (kg R _ hq) _ hq4,by simpa using hn,λj h => ?_,λj h => ?_,?_⟩,by simp; omega⟩
    ·unfold iP
     simp only[bA,bH N,zA,Nat.zero_add,I,w1,w2,w3,i1 (i+1) (Z),im1 i (Z),w5]
     rw[vP (by simp; omega)]
     have V9:decide ((0:Int)<((i+1:Nat):Int))=true:=qp
     generalize hG:(xs.set (i+1) ((lm x (i+1) / 2 ^ s:Nat):Int)).set i ((lm xs i+(lm x (i+1) % 2 ^ s)*2 ^ (32-s):Nat):Int)=G
     have hGl:G.length=xs.length:=by rw[<- hG]; simp
     rw[vS _ (Z) (Z),lh _ (Z),lh _ (Z),vS _ (Z) (Z),fP _ rfl (Z),lh _ (Z),vS _ (Z) (Z),fP _ rfl (Z),vP V9,
      vS _ (Z) (Z),fP _ (qp) (by simp; omega),vS _ (Z) (Z),fP _ (qp) (by simp; omega),bq _ (Z) rfl (Z),gn _ (Z),wg]
    ·rw[mu _ _ _ _ (Z),mu _ _ _ _ (Z)]; exact hz j (Z)
    ·have:j=i+1:=Z
     subst this
     rw[mu _ _ _ _ (Z),Kb (Z),if_pos rfl,zA]
    ·simp only
     rw[wF,mu _ _ _ _ (Z),Kb (Z),if_pos rfl,zA,tx _ (by simp; omega),Y1 _ _ _ _ (Z),zA,wF,zF]
     have FR:=hv
     rw[wF]at FR
     have e:nv (xs.take i)+4294967296 ^ i*(lm xs i+lm x (i+1) % 2 ^ s*2 ^ (32-s))=(nv (xs.take i)+4294967296 ^ i*lm xs i)+4294967296 ^ i*(lm x (i+1) % 2 ^ s*2 ^ (32-s)):=by rw[qO]; omega
     rw[e]
     exact zaB (Z) FR
  ·right
   have:i=x.length:=Z
   subst this
   refine⟨xs,?_,R,hn,?_⟩
   ·unfold iP
    simp
   ·grind
 ·show lm (M x.length 0) j=0
  unfold lm nth
  grind
theorem z83{A k:Nat}(h:(vf A).length<=k):A<4294967296 ^ k:=u7.1 h
theorem z4f(k:Nat):(4294967296:Nat) ^ (k / 32)*2 ^ (k % 32)=2 ^ k:=by
 have:(4294967296:Nat)=2 ^ 32:=xo
 rw[this,<- Nat.pow_mul,<- qA]; congr 1; omega
theorem HU(a:List Int)(ha:qi a)(la:a.length<=1000000000)(k:Nat)(hk:k<=4096)(h0:0<k):(mr a (-(k:Int))).run=some (vf (nv a / 2 ^ k)):=by
 have qa:=wq ha
 unfold mr
 rw[zx (bP a ha (Z))]
 generalize nv a=A at *
 have e1:rV (dZ (-(k:Int)) (-4096)) 4096 = -(k:Int):=by unfold rV dZ; repeat' split<;>omega
 have e2:qj (0 - -(k:Int))=(k:Int):=by rw[qo (Z) (Z)]; omega
 have e3:qj (xI (k:Int) 32)=((k / 32:Nat):Int):=by rw[ZF (Z),qo (Z) (Z)]; omega
 have e4:xr (xJ (k:Int) 32)=((k % 32:Nat):Int):=by rw[sI (Z),jm (Z) (Z)]; omega
 simp only[e1,e2,e3,e4]
 rw[vP (wb),tD _ (Z)]
 have N:=xk A
 by_cases c:(vf A).length<=k / 32
 ·rw[vP (by simp; omega),wg]
  have h1:=z83 c
  have X:=z4f k
  have h3:4294967296 ^ (k / 32)<=2 ^ k:=by rw[<- X]; exact Nat.le_mul_of_pos_right _ (zT (Z))
  rw[qI (Z),kH]
 ·rw[je (by simp; omega),tD _ (Z)]
  have e5:qj (((vf A).length:Int)-((k / 32:Nat):Int))=(((vf A).length-k / 32:Nat):Int):=by rw[qo (Z) (Z)]; omega
  have e6:uI (e:=.int .u32) ((k / 32:Nat):Int) ((vf A).length:Int) (vf A)=(vf A).drop (k / 32):=by unfold uI; simp only[zA,List.take_length]
  obtain⟨r,g1,g2,g3,g4⟩:=z4v ((vf A).drop (k / 32)) (mn N _) (by simp; omega) (k % 32) (zV _ (Z))
  have hlen:((vf A).drop (k / 32)).length=(vf A).length-k / 32:=List.length_drop
  rw[hlen]at g1
  simp only[e5,e6,zA,zW,hlen]
  rw[T.run_mk _ (Z) (Z) (Z) (Z),W8 _ (Z) (Z) (Z),bq _ rfl rfl rfl,xj rfl,zx g1]
  simp only[Nat.zero_add,qF,List.take_length]
  rw[xj rfl,zx (bP r g2 (Z)),wg,g4]
  have h1:=iU (vf A) (k / 32) (Z)
  rw[vK]at h1
  have X:=cq N (k / 32)
  have h3:A / 4294967296 ^ (k / 32)=nv ((vf A).drop (k / 32)):=by
   refine(congrArg (· / 4294967296 ^ (k / 32)) h1).trans ?_
   rw[Nat.add_mul_div_left _ _ (Ix _),qI X,Nat.zero_add]
  rw[<- h3,qQ,z4f]
theorem DU(k:Nat)(l:List Int):nv (M k 0++l)=4294967296 ^ k*nv l:=by rw[mv]; simp
theorem HV(a:List Int)(ha:qi a)(la:a.length<=1000000000)(k:Nat)(hk:k<=4096):(mr a (k:Int)).run=some (vf (nv a*2 ^ k)):=by
 have qa:=wq ha
 unfold mr
 rw[zx (bP a ha (Z))]
 generalize nv a=A at *
 have e1:rV (dZ (k:Int) (-4096)) 4096=(k:Int):=by unfold rV dZ; repeat' split<;>omega
 have e3:qj (xI (k:Int) 32)=((k / 32:Nat):Int):=by rw[ZF (Z),qo (Z) (Z)]; omega
 have e4:xr (xJ (k:Int) 32)=((k % 32:Nat):Int):=by rw[sI (Z),jm (Z) (Z)]; omega
 have N:=xk A
 have e5:qj ((vf A).length+1:Int)=(((vf A).length+1:Nat):Int):=i1 _ (Z)
 have e6:qj (qj (((k / 32:Nat):Int)+(vf A).length)+1)=((k / 32+(vf A).length+1:Nat):Int):=by rw[qo (x:=((k / 32:Nat):Int)+(vf A).length) (Z) (Z),qo (Z) (Z)]; omega
 have B3:nv (vf A)*2 ^ (k % 32)<4294967296 ^ ((vf A).length+1):=by
  have h1:=QW N
  have X:2 ^ (k % 32)<=2 ^ 32:=zZ (Z) (Z)
  exact qY h1 X (Z)
 obtain⟨r,g1,g2,g3,g4⟩:=DL (vf A) N (Z) (k % 32) ((vf A).length+1) (zV _ (Z)) (Z) (Z) B3
 simp only[e1,e3,e4,e5,e6]
 rw[je (qp),tD _ (Z),T.run_mk _ (Z) (Z) (Z) (Z),W8 _ (Z) (by simp; omega) (qp),tD _ (Z),zx g1]
 simp only[zA,Nat.zero_add,zW,qF]
 rw[zay _ rfl (Z),Hn]
 have ec:((yx (k / 32) (k / 32+(vf A).length+1-k / 32) (M (k / 32+(vf A).length+1) (0:Int)) r))=M (k / 32) 0++r:=by
  unfold yx
  rw[List.take_replicate,List.drop_replicate,zI (Z)]
  rw[show k / 32+(vf A).length+1-(k / 32+min (k / 32+(vf A).length+1-k / 32) r.length)=0 by omega]
  grind
 rw[ec,zI (by simp; omega)]
 rw[zx (bP _ (Qd.2 ⟨vo _,g2⟩) (by simp; omega)),wg,DU,g4,vK]
 rw[<- z4f k]; grind
theorem T4{u2 u1 u0 v1 v2:Nat}(X:u2<4294967296)(h1:u1<4294967296)(h0:u0<4294967296)(hv1:v1<4294967296)(FR:v2<4294967296)(hn:2147483648<=v1)
  (ht:u2*18446744073709551616+u1*4294967296+u0<(v1*4294967296+v2+1)*4294967296) :
  (pJ (u2:Int) (u1:Int) (u0:Int) (v1:Int) (v2:Int)).run=some ((min ((u2*18446744073709551616+u1*4294967296+u0) / (v1*4294967296+v2)) 4294967295:Nat):Int):=by
 obtain⟨t1,t2⟩:=T5 hn FR ht
 have ti:=LY (u2:=u2) (u1:=u1) (u0:=u0) (v1:=v1) (v2:=v2) (Z) h0
 obtain⟨Q,hQ⟩:∃ Q,(u2*18446744073709551616+u1*4294967296+u0) / (v1*4294967296+v2)=Q:=⟨_,rfl⟩
 rw[hQ]at ti ⊢
 have hV:0<v1*4294967296+v2:=Z
 have e1:=z1X (x:=(u2:Int)) (y:=(u1:Int)) (Z) (Z) (Z) (Z)
 have e2:(u2:Int)*4294967296+(u1:Int)=((u2*4294967296+u1:Nat):Int):=Z
 have w1:xr (u1:Int)=u1:=lL (Z)
 have w2:xr (u2:Int)=u2:=lL (Z)
 have w0:xr (u0:Int)=u0:=lL (Z)
 have x1:xr (v1:Int)=v1:=lL (Z)
 have x2:xr (v2:Int)=v2:=lL (Z)
 have e3:xI ((u2*4294967296+u1:Nat):Int) (v1:Int)=(((u2*4294967296+u1) / v1:Nat):Int):=by rw[ZF (Z)]; rfl
 have e4:xJ ((u2*4294967296+u1:Nat):Int) (v1:Int)=(((u2*4294967296+u1) % v1:Nat):Int):=by rw[sI (Z)]; rfl
 have hm:(u2*4294967296+u1) % v1<v1:=zV _ (Z)
 have hdm:=qC (u2*4294967296+u1) v1
 rw[zE]at hdm
 have loop:∃ r:Int,(J6 (u0:Int) (v1:Int) (v2:Int) ((((u2*4294967296+u1) / v1:Nat):Int),(((u2*4294967296+u1) % v1:Nat):Int))).run=some r/\r=((min Q 4294967295:Nat):Int):=by
  refine T.cJ (λs:Int×Int=>∃ q r:Nat,s.1=(q:Int)/\s.2=(r:Int)/\q<=4294967297/\r<4294967296/\q*v1+r=u2*4294967296+u1/\min Q 4294967295<=q)
   (λs=>s.1.toNat) _ ?_ ⟨_,_,rfl,rfl,t2,Z,hdm,Z⟩
  rintro⟨_,_⟩ ⟨q,r,rfl,rfl,hq,hr,hqr,zdw⟩
  have e5:=z1X (x:=(r:Int)) (y:=(u0:Int)) (Z) (Z) (Z) (Z)
  have es:j8 .u64 (q:Int) 32=((q / 4294967296:Nat):Int):=Gg q
  by_cases hbig:4294967296<=q\/r*4294967296+u0<q*v2
  ·-- too many
   have hgt:min Q 4294967295<q:=by
    rcases hbig with h | h
    ·omega
    ·have:=z1p hV (z1o (u2:=u2) (u1:=u1) (u0:=u0) (v1:=v1) (v2:=v2) hqr h)
     omega
   have ec:((j8 .u64 (q:Int) 32 != 0)||decide (Um .u64 (fS .u64 (r:Int) 32) (u0:Int)<xr ((q:Int)*(v2:Int))))=true:=by
    rw[es,e5]
    by_cases h:4294967296<=q
    ·grind
    ·have hh:r*4294967296+u0<q*v2:=hbig.resolve_left h
     have hm2:=Kf (x:=q) (y:=v2) (Nat.lt_of_not_le h) FR
     have e6:(q:Int)*(v2:Int)=((q*v2:Nat):Int):=qp
     rw[e6,lL (zG hm2 (xo))]
     grind
   have eq1:xr ((q:Int)-1)=((q-1:Nat):Int):=by rw[jm (Z) (Z)]; omega
   have er1:xr ((r:Int)+(v1:Int))=((r+v1:Nat):Int):=by rw[jm (Z) (Z)]; omega
   have hq1:(q-1)*v1+(r+v1)=u2*4294967296+u1:=by
    obtain⟨p,rfl⟩:∃ p,q=p+1:=⟨q-1,Z⟩
    grind
   by_cases hover:4294967296<=r+v1
   ·right
    refine⟨((q-1:Nat):Int),?_,?_⟩
    ·unfold iR
     simp only[w0,x1,x2,eq1,er1]
     rw[xj ⟨Z,λ_=>Z⟩,vP ec,lh _ (Z),vP (by rw[Gg]; simp; omega),wg]
    ·-- what is left cannot be more
     have hq2:q-1<=Q:=by
      rw[<- hQ,zN hV]
      refine FA (u0:=u0) hq1 ?_
      have h3:q-1<=4294967295:=by
       grind
      have h4:(q-1)*v2<=4294967295*4294967295:=qX h3 (Z)
      grind
     have h5:q-1<=4294967295:=by
      grind
     omega
   ·left
    refine⟨(((q-1:Nat):Int),((r+v1:Nat):Int)),?_,⟨q-1,r+v1,rfl,rfl,Z,Z,hq1,Z⟩,by simp; omega⟩
    unfold iR
    simp only[w0,x1,x2,eq1,er1]
    rw[xj ⟨Z,λ_=>Z⟩,vP ec,lh _ (Z),je (by rw[Gg]; simp; omega),wg]
  ·right
   have hm2:=Kf (x:=q) (y:=v2) (Z) FR
   have e6:(q:Int)*(v2:Int)=((q*v2:Nat):Int):=qp
   have ec:((j8 .u64 (q:Int) 32 != 0)||decide (Um .u64 (fS .u64 (r:Int) 32) (u0:Int)<xr ((q:Int)*(v2:Int))))=false:=by
    have hz:q / 4294967296=0:=Z
    rw[es,e5,e6,lL (zG hm2 (xo)),hz]
    have hh:¬ (r*4294967296+u0<q*v2):=Z
    generalize q*v2=z at *
    rw[show decide ((r:Int)*4294967296+(u0:Int)<(z:Int))=false from decide_eq_false (Z)]; rfl
   refine⟨(q:Int),?_,?_⟩
   ·unfold iR
    simp only[w0,x1,x2]
    rw[xj ⟨Z,λ_=>Z⟩,je ec,wg]
   ·have hq2:q<=Q:=by
     rw[<- hQ,zN hV]
     exact FA hqr (Z)
    omega
 obtain⟨r,hr,rfl⟩:=loop
 unfold pJ
 have e7:xr (((u2*4294967296+u1) / v1:Nat):Int)=(((u2*4294967296+u1) / v1:Nat):Int):=lL (Z)
 simp only[w1,w2,x1,e1,e2,e3,e4,e7]
 rw[lh _ (Z),tD _ (Z),tD _ (Z),zx hr,wg]
theorem CD{x y b:Nat}(N:x<4294967296)(hy:y<4294967296)(I:b<=1) :
  (y7 (x:Int) (y:Int) (b:Int)).run=some ((((x+4294967296*(if x<y+b then 1 else 0))-(y+b):Nat):Int),((if x<y+b then 1 else 0:Nat):Int)):=by
 have e1:=zn7 N hy I
 have e2:=z0M N hy I rfl
 unfold y7
 rw[lh _ (Z),e1,e2,wg]
 grind
theorem SD{x y b:Nat}(N:x<4294967296)(hy:y<4294967296)(I:b<=1) :
  (eT (x:Int) (y:Int) (b:Int)).run=some ((((x+y+b) % 4294967296:Nat):Int),(((x+y+b) / 4294967296:Nat):Int)):=by
 have e:xr (xr ((x:Int)+(y:Int))+(b:Int))=((x+y+b:Nat):Int):=by rw[jm (x:=(x:Int)+y) (Z) (Z),jm (Z) (Z)]; omega
 unfold eT
 rw[lh _ (Z),lL (Z),lL (Z),lL (Z),e,Gg,FY,JI (Z),wg]
theorem fD(xs:List Int)(o i:Nat)(x:Int):(xs.set (o+i) x).drop o=(xs.drop o).set i x:=by
 rw[List.drop_set,if_neg (Z)]; congr 1; omega
theorem rU(xs:List Int)(o i:Nat):lm (xs.drop o) i=lm xs (o+i):=by
 unfold lm nth
 grind
theorem z4H{h2 X' P hx c bo q v w lo hi d zB k:Nat}(h:h2+q*hx=zB+(bo+c)*P)(hs:X'+P*w=h2+P*d)(hc:c+q*v=lo+4294967296*hi)(J:d+(lo+bo)=w+4294967296*k) :
  X'+q*(hx+P*v)=zB+(k+hi)*(P*4294967296):=wb
theorem zmW{c q v:Nat}(hc:c<4294967296)(hq:q<4294967296)(hv:v<4294967296):xr ((c:Int)+xr ((q:Int)*(v:Int)))=((c+q*v:Nat):Int)/\(c+q*v) / 4294967296<4294967296:=by
 have h:=Kf hq hv
 have e:(q:Int)*(v:Int)=((q*v:Nat):Int):=qp
 rw[e]
 generalize q*v=z at *
 rw[jm (x:=(z:Int)) (Z) (Z),jm (Z) (Z)]
 omega
theorem zf2(b:List Int)(I:qi b)(lb:b.length<=1000000000)(q:Nat)(hq:q<4294967296)(u:List Int)(hu:qi u)(o:Nat)(ho:o+b.length<u.length) :
  ∃ r:(Nat×Nat)×Int×Int×List Int,(XO b (q:Int) b (b.length:Int) ((o,b.length+1),0,0,0,u)).run=some r/\r.1=(o,b.length+1)/\∃ c bo:Nat,r.2.1=(c:Int)/\r.2.2.1=(bo:Int)/\c<4294967296/\bo<=1/\qi r.2.2.2 /\
   r.2.2.2.length=u.length/\r.2.2.2.take o=u.take o/\(r.2.2.2.drop o).drop b.length=(u.drop o).drop b.length/\nv (r.2.2.2.drop o)+q*nv b=nv (u.drop o)+(bo+c)*4294967296 ^ b.length:=by
 refine T.cJ (λs:(Nat×Nat)×Int×Int×Int×List Int=>s.1=(o,b.length+1)/\∃ c bo i:Nat,s.2.1=(c:Int)/\s.2.2.1=(bo:Int)/\s.2.2.2.1=(i:Int)/\c<4294967296/\bo<=1/\i<=b.length/\qi s.2.2.2.2 /\
   s.2.2.2.2.length=u.length/\s.2.2.2.2.take o=u.take o/\(s.2.2.2.2.drop o).drop i=(u.drop o).drop i/\nv (s.2.2.2.2.drop o)+q*nv (b.take i)=nv (u.drop o)+(bo+c)*4294967296 ^ i)
  (λs=>b.length-s.2.2.2.1.toNat) _ ?_ ⟨rfl,0,0,0,rfl,rfl,rfl,Z,Z,Z,hu,rfl,rfl,rfl,qp⟩
 rintro⟨_,_,_,_,xs⟩ ⟨rfl,c,bo,i,rfl,rfl,rfl,hc,hbo,hi,R,hn,ht,J,hv⟩
 simp only at R hn ht J hv ⊢
 by_cases wO:i<b.length
 ·left
  have hw:=bV I i
  have N:=bV R (o+i)
  obtain⟨m1,m2⟩:=zmW hc hq hw
  have hs:=CD N (show(c+q*lm b i) % 4294967296<4294967296 by omega) hbo
  have FF:lm xs (o+i)+4294967296*(if lm xs (o+i)<(c+q*lm b i) % 4294967296+bo then 1 else 0)-((c+q*lm b i) % 4294967296+bo)<4294967296:=by split<;>omega
  have hbw:(if lm xs (o+i)<(c+q*lm b i) % 4294967296+bo then 1 else 0)<=1:=by split<;>omega
  have hde:lm xs (o+i)+4294967296*(if lm xs (o+i)<(c+q*lm b i) % 4294967296+bo then 1 else 0)-((c+q*lm b i) % 4294967296+bo)+((c+q*lm b i) % 4294967296+bo)=lm xs (o+i)+4294967296*(if lm xs (o+i)<(c+q*lm b i) % 4294967296+bo then 1 else 0):=by split<;>omega
  generalize hD:lm xs (o+i)+4294967296*(if lm xs (o+i)<(c+q*lm b i) % 4294967296+bo then 1 else 0)-((c+q*lm b i) % 4294967296+bo)=D at *
  generalize hB:(if lm xs (o+i)<(c+q*lm b i) % 4294967296+bo then 1 else 0)=B2 at *
  refine⟨((o,b.length+1),((((c+q*lm b i) / 4294967296:Nat)):Int),(B2:Int),((i+1:Nat):Int),xs.set (o+i) (D:Int)),?_,
   ⟨rfl,(c+q*lm b i) / 4294967296,B2,i+1,rfl,rfl,rfl,m2,hbw,Z,kg R _ FF,by simpa using hn,?_,?_,?_⟩,by simp; omega⟩
  ·unfold iS
   have ew:xr (lm b i:Int)=lm b i:=lL (Z)
   simp only[bA,bH I,zA,mT R,ew,m1,FY,Gg,i1 i (Z)]
   rw[vP (by simp; omega),vS _ (Z) (Z),vS _ (Z) (Z),fP _ rfl (Z),zx hs]
   simp only
   rw[vS _ (Z) (Z),fP _ rfl (Z),lh _ (Z),xj rfl,gn _ (qp),wg]
  ·simp only
   rw[zS (Z),ht]
  ·simp only
   rw[fD,cL]
   have:=congrArg (xK 1) J
   rw[qE,qE,]at this
   simpa[xC,qG]using this
  ·simp only
   rw[fD,wF,zF]
   have og:=DS (a:=xs.drop o) (i:=i) (D:Int) (by simp; omega)
   rw[zA,rU]at og
   exact z4H (lo:=(c+q*lm b i) % 4294967296) hv og (by generalize c+q*lm b i=z; omega) hde
 ·right
  have:i=b.length:=Z
  subst this
  refine⟨((o,b.length+1),(c:Int),(bo:Int),xs),?_,rfl,c,bo,rfl,rfl,hc,hbo,R,hn,ht,J,by simpa[List.take_length]using hv⟩
  unfold iS
  simp
theorem z0G{h2 X' P hx m v w d hi zB:Nat}(h:h2+m*P=zB+hx)(hs:X'+P*w=h2+P*d)(J:d+4294967296*hi=w+v+m):X'+hi*(P*4294967296)=zB+(hx+P*v):=wb
theorem zf3(b:List Int)(I:qi b)(lb:b.length<=1000000000)(u:List Int)(hu:qi u)(o:Nat)(ho:o+b.length<u.length) :
  ∃ r:(Nat×Nat)×Int×List Int,(XP b b (b.length:Int) ((o,b.length+1),0,0,u)).run=some r/\r.1=(o,b.length+1)/\∃ m:Nat,r.2.1=(m:Int)/\m<=1/\qi r.2.2 /\
   r.2.2.length=u.length/\r.2.2.take o=u.take o/\(r.2.2.drop o).drop b.length=(u.drop o).drop b.length/\nv (r.2.2.drop o)+m*4294967296 ^ b.length=nv (u.drop o)+nv b:=by
 refine T.cJ (λs:(Nat×Nat)×Int×Int×List Int=>s.1=(o,b.length+1)/\∃ m i:Nat,s.2.1=(m:Int)/\s.2.2.1=(i:Int)/\m<=1/\i<=b.length/\qi s.2.2.2 /\
   s.2.2.2.length=u.length/\s.2.2.2.take o=u.take o/\(s.2.2.2.drop o).drop i=(u.drop o).drop i/\nv (s.2.2.2.drop o)+m*4294967296 ^ i=nv (u.drop o)+nv (b.take i))
  (λs=>b.length-s.2.2.1.toNat) _ ?_ ⟨rfl,0,0,rfl,rfl,Z,Z,hu,rfl,rfl,rfl,qp⟩
 rintro⟨_,_,_,xs⟩ ⟨rfl,m,i,rfl,rfl,hm,hi,R,hn,ht,J,hv⟩
 simp only at R hn ht J hv ⊢
 by_cases wO:i<b.length
 ·left
  have hw:=bV I i
  have N:=bV R (o+i)
  have hs:=SD N hw hm
  refine⟨((o,b.length+1),(((lm xs (o+i)+lm b i+m) / 4294967296:Nat):Int),((i+1:Nat):Int),xs.set (o+i) (((lm xs (o+i)+lm b i+m) % 4294967296:Nat):Int)),?_,
   ⟨rfl,_,i+1,rfl,rfl,Z,Z,kg R _ (Z),by simpa using hn,?_,?_,?_⟩,by simp; omega⟩
  ·unfold iT
   simp only[bA,bH I,zA,mT R,i1 i (Z)]
   rw[vP (by simp; omega),vS _ (Z) (Z),vS _ (Z) (Z),fP _ rfl (Z),zx hs]
   simp only
   rw[vS _ (Z) (Z),fP _ rfl (Z),xj rfl,gn _ (qp),wg]
  ·simp only
   rw[zS (Z),ht]
  ·simp only
   rw[fD,cL]
   have:=congrArg (xK 1) J
   simpa[xC,qG]using this
  ·simp only
   rw[fD,wF,zF]
   have og:=DS (a:=xs.drop o) (i:=i) (((lm xs (o+i)+lm b i+m) % 4294967296:Nat):Int) (by simp; omega)
   rw[zA,rU]at og
   exact z0G hv og (Z)
 ·right
  have:i=b.length:=Z
  subst this
  refine⟨((o,b.length+1),(m:Int),xs),?_,rfl,m,rfl,hm,R,hn,ht,J,by simpa[List.take_length]using hv⟩
  unfold iT
  simp
theorem XR{D:List Int}(R:qi D)(k:Nat)(hk:k<=D.length)(h:nv D<4294967296 ^ k):nv (D.drop k)=0:=by
 have h1:=iU D k hk
 rcases qB (nv (D.drop k))with z | z
 ·exact z
 ·have:=zK (4294967296 ^ k) z
  omega
theorem Jb{D:List Int}(R:qi D)(k:Nat)(hk:k<=D.length)(h:nv (D.drop k)=0):nv D<4294967296 ^ k:=by
 have h1:=iU D k hk
 have X:=cq R k
 grind
theorem z2t{h2 X' P q hx c bo w d zB k:Nat}(h:h2+q*hx=zB+(bo+c)*P)(hs:X'+P*w=h2+P*d)(J:d+(c+bo)=w+4294967296*k):X'+q*hx=zB+k*(P*4294967296):=wb
theorem z0H{z6 zB h2 zD P L m p hx:Nat}(h1:z6+P*L=zB+P*((L+m) % 4294967296))(X:zB+m*P=h2+hx)(h3:h2+(p+1)*hx=zD+1*(P*4294967296))(h4:z6<P*4294967296)(h5:(p+1)*hx<=zD+hx)
  (hm:m<=1) (hL:L<4294967296):z6+(p+1-1)*hx=zD:=by
 by_cases hov:L+m<4294967296
 ·rw[qS hov,qO]at h1
  grind
 ·have zuH:(L+m) % 4294967296=0:=Z
  grind
theorem z0c(b:List Int)(I:qi b)(lb:b.length<=1000000000)(q:Nat)(hq:q<4294967296)(u:List Int)(hu:qi u)(lu:u.length<=4000000000)(o:Nat)(ho:o+b.length<u.length)
  (B3:nv (u.drop o)<4294967296 ^ (b.length+1)) (zia:q*nv b<=nv (u.drop o)+nv b) :
  ∃ xs:List Int,(tv (o,b.length+1) b (q:Int) u).run=some (decide (nv (u.drop o)<q*nv b),xs)/\qi xs/\xs.length=u.length/\xs.take o=u.take o /\
   nv (xs.drop o)+(if nv (u.drop o)<q*nv b then q-1 else q)*nv b=nv (u.drop o):=by
 obtain⟨⟨_,_,_,xs⟩,hr,rfl,c,bo,rfl,rfl,hc,hbo,R,hn,ht,J,hv⟩:=zf2 b I lb q hq u hu o ho
 simp only at R hn ht J hv
 have hBl:=QW I
 have N:=bV R (o+b.length)
 have hs:=CD N hc hbo
 have FF:lm xs (o+b.length)+4294967296*(if lm xs (o+b.length)<c+bo then 1 else 0)-(c+bo)<4294967296:=by split<;>omega
 have hbw:(if lm xs (o+b.length)<c+bo then 1 else 0)<=1:=by split<;>omega
 have hde:lm xs (o+b.length)+4294967296*(if lm xs (o+b.length)<c+bo then 1 else 0)-(c+bo)+(c+bo)=lm xs (o+b.length)+4294967296*(if lm xs (o+b.length)<c+bo then 1 else 0):=by split<;>omega
 generalize lm xs (o+b.length)+4294967296*(if lm xs (o+b.length)<c+bo then 1 else 0)-(c+bo)=D at *
 generalize (if lm xs (o+b.length)<c+bo then 1 else 0)=B2 at *
 have og:=DS (a:=xs.drop o) (i:=b.length) (D:Int) (by simp; omega)
 rw[zA,rU,<- fD]at og
 have z1V:=z2t hv og hde
 have hl1:qi (xs.set (o+b.length) (D:Int)):=kg R _ FF
 have Gi:(xs.set (o+b.length) (D:Int)).length=u.length:=by simpa using hn
 have ht1:(xs.set (o+b.length) (D:Int)).take o=u.take o:=by rw[zS (Z),ht]
 have hd1:((xs.set (o+b.length) (D:Int)).drop o).drop (b.length+1)=(u.drop o).drop (b.length+1):=by
  rw[fD,cL]
  have:=congrArg (xK 1) J
  rw[qE,qE]at this
  simpa[xC,qG]using this
 have hz:=XR (mn hu o) (b.length+1) (by simp; omega) B3
 have z2a:nv ((xs.set (o+b.length) (D:Int)).drop o)<4294967296 ^ (b.length+1):=Jb (mn hl1 o) _ (by simp; omega) (by rw[hd1]; exact hz)
 have zo3:(4294967296:Nat) ^ (b.length+1)=4294967296 ^ b.length*4294967296:=zF ..
 have ec:jT (c:Int)=c:=JI hc
 unfold tv
 rw[gn _ rfl,gn _ rfl,zx hr]
 simp only[zA,bA,mT R,ec]
 rw[vS _ (Z) (Z),fP _ rfl (Z),zx hs]
 simp only
 rw[vS _ (Z) (Z),fP _ rfl (Z)]
 generalize hX:xs.set (o+b.length) (D:Int)=h2 at *
 rcases qB B2 with z | z
 ·subst z
  rw[vP (qp),gn _ (Z),wg]
  grind
 ·have hB2:B2=1:=Z
  subst hB2
  have wO:nv (u.drop o)<q*nv b:=Z
  obtain⟨⟨_,_,ys⟩,hr2,rfl,m,rfl,hm,Zm,Dt,Ti,hd2,FR⟩:=zf3 b I lb h2 hl1 o (Z)
  simp only at Zm Dt Ti hd2 FR
  have hy:=bV Zm (o+b.length)
  have eu:jT ((lm ys (o+b.length):Int)+(m:Int))=(((lm ys (o+b.length)+m) % 4294967296:Nat):Int):=by rw[<- FY]; rfl
  rw[je (qp),xj rfl,gn _ (Z),zx hr2]
  simp only[zA,bA,mT Zm,eu]
  rw[vS _ (Z) (Z),fP _ rfl (Z),vS _ (Z) (Z),fP _ rfl (Z),gn _ (qp),wg]
  have zbw:=DS (a:=ys.drop o) (i:=b.length) (((lm ys (o+b.length)+m) % 4294967296:Nat):Int) (by simp; omega)
  rw[zA,rU,<- fD]at zbw
  have hl3:qi (ys.set (o+b.length) (((lm ys (o+b.length)+m) % 4294967296:Nat):Int)):=kg Zm _ (Z)
  have hd3:((ys.set (o+b.length) (((lm ys (o+b.length)+m) % 4294967296:Nat):Int)).drop o).drop (b.length+1)=(u.drop o).drop (b.length+1):=by
   rw[fD,cL,<- hd1]
   have:=congrArg (xK 1) hd2
   rw[qE,qE]at this
   simpa[xC,qG]using this
  have zi6:nv ((ys.set (o+b.length) (((lm ys (o+b.length)+m) % 4294967296:Nat):Int)).drop o)<4294967296 ^ (b.length+1):=Jb (mn hl3 o) _ (by simp; omega) (by rw[hd3]; exact hz)
  refine⟨_,by rw[decide_eq_true wO],hl3,by simp; omega,?_,?_⟩
  ·rw[zS (Z),Ti,ht1]
  ·rw[if_pos wO]
   generalize nv ((ys.set (o+b.length) (((lm ys (o+b.length)+m) % 4294967296:Nat):Int)).drop o)=z6 at *
   obtain⟨p,rfl⟩:∃ p,q=p+1:=⟨q-1,by
    rcases qB q with h | h
    ·subst h; omega
    ·omega⟩
   rw[zo3]at zi6
   exact z0H zbw FR z1V zi6 zia hm hy
def Qc:q9:=[0,1,2,2,3,3,3,3,4,4,4,4,4,4,4,4]++M 16 5++M 32 6++M 64 7++M 128 8
theorem Tu:∀ y:Fin 256,y.val≠0->1<=(Qc.getD y.val 0).toNat/\(Qc.getD y.val 0).toNat<=8/\2 ^ ((Qc.getD y.val 0).toNat-1)<=y.val/\y.val<2 ^ (Qc.getD y.val 0).toNat:=by decide +kernel
set_option maxRecDepth 100000 in
theorem Ml:Qc.length=256:=by rfl
theorem len8{y:Nat}(h0:0<y)(h:y<256):∃ t:Nat,uC Qc (y:Int)=(t:Int)/\1<=t/\t<=8/\2 ^ (t-1)<=y/\y<2 ^ t:=by
 have:=Tu ⟨y,h⟩ (by simp; omega)
 refine⟨(Qc.getD y 0).toNat,?_,this⟩
 unfold uC
 rw[zA]
theorem RT{x s:Nat}(hs:s<=32):j8 .u32 (x:Int) (s:Int)=((x / 2 ^ s:Nat):Int):=by
 show Int.fdiv (x:Int) (2 ^ (min (s:Int).toNat 32))=_
 grind
set_option maxRecDepth 100000 in
theorem Tt{x:Nat}(h0:0<x)(h:x<4294967296):∃ t:Nat,(eV (x:Int)).run=some (t:Int)/\1<=t/\t<=32/\2 ^ (t-1)<=x/\x<2 ^ t:=by
 have zp6:eV (x:Int)=(.W (((decide ((65536:Int)<=(x:Int)))=true)->((0:Int)<=(16:Int))) <|
  .W (((decide ((256:Int)<=(bif (decide ((65536:Int)<=(x:Int)))then(j8 .u32 (x:Int) (16:Int))else(x:Int))))=true)->((0:Int)<=(8:Int))) <|
  .W (xf (wu8 (bif (decide ((256:Int)<=(bif (decide ((65536:Int)<=(x:Int)))then(j8 .u32 (x:Int) (16:Int))else(x:Int))))then(j8 .u32 (bif (decide ((65536:Int)<=(x:Int)))then(j8 .u32 (x:Int) (16:Int))else(x:Int)) (8:Int))else(bif (decide ((65536:Int)<=(x:Int)))then(j8 .u32 (x:Int) (16:Int))else(x:Int)))) Qc.length) <|
  .ret (qj ((bif (decide ((256:Int)<=(bif (decide ((65536:Int)<=(x:Int)))then(j8 .u32 (x:Int) (16:Int))else(x:Int))))then(qj ((bif (decide ((65536:Int)<=(x:Int)))then(16:Int)else(0:Int))+(8:Int)))else(bif (decide ((65536:Int)<=(x:Int)))then(16:Int)else(0:Int)))+(qj (uC Qc (wu8 (bif (decide ((256:Int)<=(bif (decide ((65536:Int)<=(x:Int)))then(j8 .u32 (x:Int) (16:Int))else(x:Int))))then(j8 .u32 (bif (decide ((65536:Int)<=(x:Int)))then(j8 .u32 (x:Int) (16:Int))else(x:Int)) (8:Int))else(bif (decide ((65536:Int)<=(x:Int)))then(j8 .u32 (x:Int) (16:Int))else(x:Int)))))))):T Int):=by rfl
 rw[zp6,Ml]
 -- y: what is left; k: how many bits ahead of it
 obtain⟨y,k,e1,e2,hk,hy0,hy,hlo,hhi⟩:∃ y k:Nat,(bif (decide ((256:Int)<=(bif (decide ((65536:Int)<=(x:Int)))then(j8 .u32 (x:Int) (16:Int))else(x:Int))))then(j8 .u32 (bif (decide ((65536:Int)<=(x:Int)))then(j8 .u32 (x:Int) (16:Int))else(x:Int)) (8:Int))else(bif (decide ((65536:Int)<=(x:Int)))then(j8 .u32 (x:Int) (16:Int))else(x:Int)))=(y:Int) /\
   (bif (decide ((256:Int)<=(bif (decide ((65536:Int)<=(x:Int)))then(j8 .u32 (x:Int) (16:Int))else(x:Int))))then(qj ((bif (decide ((65536:Int)<=(x:Int)))then(16:Int)else(0:Int))+(8:Int)))else(bif (decide ((65536:Int)<=(x:Int)))then(16:Int)else(0:Int)))=(k:Int) /\
   k<=24/\0<y/\y<256/\y*2 ^ k<=x/\x<(y+1)*2 ^ k:=by
  have s16:j8 .u32 (x:Int) 16=((x / 65536:Nat):Int):=RT (s:=16) (Z)
  have s8:∀ z:Nat,j8 .u32 (z:Int) 8=((z / 256:Nat):Int):=λz=>RT (s:=8) (Z)
  by_cases c1:65536<=x
  ·rw[show decide ((65536:Int)<=(x:Int))=true from decide_eq_true (Z)]
   simp only[cond_true,s16]
   by_cases c2:256<=x / 65536
   ·rw[show decide ((256:Int)<=((x / 65536:Nat):Int))=true from decide_eq_true (Z)]
    simp only[cond_true,s8]
    exact⟨x / 65536 / 256,24,rfl,xo,Z,Z,Z,Z,Z⟩
   ·rw[show decide ((256:Int)<=((x / 65536:Nat):Int))=false from decide_eq_false (Z)]
    simp only[cond_false]
    exact⟨x / 65536,16,rfl,rfl,Z,Z,Z,Z,Z⟩
  ·rw[show decide ((65536:Int)<=(x:Int))=false from decide_eq_false (Z)]
   simp only[cond_false]
   by_cases c2:256<=x
   ·rw[show decide ((256:Int)<=(x:Int))=true from decide_eq_true (Z)]
    simp only[cond_true,s8]
    exact⟨x / 256,8,rfl,xo,Z,Z,Z,Z,Z⟩
   ·rw[show decide ((256:Int)<=(x:Int))=false from decide_eq_false (Z)]
    simp only[cond_false]
    exact⟨x,0,rfl,rfl,Z,Z,Z,Z,Z⟩
 obtain⟨t,t1,t2,t3,t4,t5⟩:=len8 hy0 hy
 rw[e1,e2,zfc (Z) (Z),t1,qo (x:=(t:Int)) (Z) (Z),qo (Z) (Z)]
 refine⟨k+t,?_,Z,Z,?_,?_⟩
 ·rw[xj (λ_=>Z),xj (λ_=>Z),vS _ (Z) (Z),wg]; rfl
 ·rw[show k+t-1=(t-1)+k by omega,qA]
  exact zQ (Y _ t4) hlo
 ·rw[show k+t=t+k by omega,qA]
  exact Nat.lt_of_lt_of_le hhi (Y _ t5)
theorem z3t{x:Nat}(h0:0<x)(h:x<4294967296):∃ s:Nat,(ku (x:Int)).run=some (s:Int)/\s<32/\2147483648<=x*2 ^ s/\x*2 ^ s<4294967296:=by
 obtain⟨t,t1,t2,t3,t4,t5⟩:=Tt h0 h
 refine⟨32-t,?_,Z,?_,?_⟩
 ·unfold ku
  rw[zx t1,wg,qo (Z) (Z)]
  grind
 ·have:=Y (2 ^ (32-t)) t4
  rw[<- qA,show t-1+(32-t)=31 by omega]at this
  exact this
 ·have:=qD t5 (show 0<2 ^ (32-t)from zT (Z))
  rw[<- qA,show t+(32-t)=32 by omega]at this
  exact this
theorem horner(a b c:Nat):(a*4294967296+b)*4294967296+c=a*18446744073709551616+b*4294967296+c:=by
 rw[Nat.add_mul,qJ]
theorem LZ{u2 u1 u0 v1 v2:Nat}(X:u2<4294967296)(h1:u1<4294967296)(h0:u0<4294967296)(hv1:v1<4294967296)(FR:v2<4294967296)(hn:2147483648<=v1)
  (ht:(u2*4294967296+u1)*4294967296+u0<(v1*4294967296+v2+1)*4294967296) :
  (pJ (u2:Int) (u1:Int) (u0:Int) (v1:Int) (v2:Int)).run=some ((min (((u2*4294967296+u1)*4294967296+u0) / (v1*4294967296+v2)) 4294967295:Nat):Int):=by
 rw[horner]at ht ⊢
 exact T4 X h1 h0 hv1 FR hn ht
theorem z4I(a b P t:Nat):t+P*b+P*4294967296*a=(a*4294967296+b)*P+t:=wb
theorem zn9(d:List Int)(n:Nat)(hn:d.length=n+2):nv d=(lm d (n+1)*4294967296+lm d n)*4294967296 ^ n+nv (d.take n):=by
 have h1:=wF d n
 have X:=wF d (n+1)
 rw[jL (Z)]at X
 rw[X,h1,zF,z4I]
theorem z4J{B a b c P Bn t1 t2 t3:Nat}(h1:t1=Bn+P*c)(X:t2=t1+P*B*b)(h3:t3=t2+P*B*B*a):t3=((a*B+b)*B+c)*P+Bn:=by
 rw[h3,X,h1]; grind
theorem zro(w:List Int)(n:Nat)(h:nv (w.drop (n+1+1+1))=0):nv w=((lm w (n+1+1)*4294967296+lm w (n+1))*4294967296+lm w n)*4294967296 ^ n+nv (w.take n):=by
 have h0:nv w=nv (w.take (n+1+1+1)):=by
  by_cases c:n+1+1+1<=w.length
  ·have:=iU w (n+1+1+1) c
   rw[h,Nat.mul_zero,qH]at this; exact this
  ·rw[jL (Z)]
 have h1:=wF w n
 have X:=wF w (n+1)
 have h3:=wF w (n+1+1)
 rw[zF]at X
 rw[zF,zF,<- h0]at h3
 exact z4J h1 X h3
theorem Mo{a b:List Int}{k i:Nat}(h:a.take k=b.take k)(hi:i<k):lm a i=lm b i:=by
 have e:=congrArg (λl=>l[i]?) h
 simp only[qW,if_pos hi]at e
 unfold lm nth
 rw[zP,zP,zA,e]
theorem zf6{U3 V2 D h2 zB zD oE:Nat}(hU:zD=U3*D+h2)(hV:oE=V2*D+zB)(hY:zB<D)(hUV:zD<oE*4294967296):U3<(V2+1)*4294967296:=by
 have h1:U3*D<(V2+1)*4294967296*D:=by
  have e:(V2+1)*4294967296*D=(V2*D+D)*4294967296:=wb
  rw[e]
  have:oE*4294967296<=(V2*D+D)*4294967296:=Y _ (Z)
  omega
 exact zU h1
theorem z0f(d:List Int)(J:qi d)(n:Nat)(hn:d.length=n+2)(FQ:2147483648<=lm d (n+1))(w:List Int)(hw:qi w)(hwl:n+1+1+1<=w.length)(hW:nv w<nv d*4294967296) :
  ∃ x:Nat,(pJ (lm w (n+1+1):Int) (lm w (n+1):Int) (lm w n:Int) (lm d (n+1):Int) (lm d n:Int)).run=some (x:Int)/\x<4294967296/\nv w / nv d<=x/\x<=nv w / nv d+1/\nv w<4294967296 ^ (d.length+1):=by
 have FF:=QW J
 have hdt:=zn9 d n hn
 have hdn:=cq J n
 have hWp:nv w<4294967296 ^ (d.length+1):=by
  rw[zF]
  exact Nat.lt_of_lt_of_le hW (Y _ (Nat.le_of_lt FF))
 have hz:=XR hw (d.length+1) (Z) hWp
 rw[show d.length+1=n+1+1+1 by omega]at hz
 have ht3:=zro w n hz
 have hwn:=cq hw n
 have hU3:=zf6 ht3 hdt hdn hW
 refine⟨_,LZ (bV hw _) (bV hw _) (bV hw _) (bV J _) (bV J _) FQ hU3,?_,?_,?_,hWp⟩
 ·exact zG (Nat.min_le_right _ _) (xo)
 ·refine(NT ht3 hwn hdt hdn ?_ hW rfl).1
  exact zQ (Y 4294967296 FQ) (Nat.le_add_right _ _)
 ·refine(NT ht3 hwn hdt hdn ?_ hW rfl).2
  exact zQ (Y 4294967296 FQ) (Nat.le_add_right _ _)
theorem zpR{zl oE x:Nat}(g2:x<=zl / oE+1):x*oE<=zl+oE:=by
 have h1:=Y oE g2
 have X:=qV zl oE
 rw[Nat.add_mul,Nat.one_mul]at h1
 omega
theorem digit{zl oE x:Nat}(hV:0<oE)(g1:zl / oE<=x)(g2:x<=zl / oE+1):(if zl<x*oE then x-1 else x)=zl / oE:=by
 have hdm:=qC zl oE
 have hml:=zV zl hV
 have hz:0<=zl / oE:=xB _
 split
 ·rename_i c
  have:x≠zl / oE:=by
   intro h
   rw[h,zE]at c; omega
  generalize zl / oE=z at *
  omega
 ·rename_i c
  have hle:x<=zl / oE:=(zN hV).2 (Z)
  exact Nat.le_antisymm hle g1
theorem zfa{l hx oE:Nat}(R:l<4294967296)(hN:hx<oE):l+4294967296*hx<oE*4294967296:=by
 have:=zK 4294967296 (show hx+1<=oE from hN)
 omega
theorem Mp(d:List Int)(J:qi d)(n:Nat)(hn:d.length=n+2)(ln:n<=999999990)(FQ:2147483648<=lm d (n+1))(y:Int)(i:Nat)(li:i<=1000000000)(u q:List Int)(R:qi u)(lu:u.length<=2000000000)(hiu:i+d.length<u.length)
  (hq:qi q) (hiq:i<q.length) (wO:nv (u.drop (i+1))<nv d) :
  ∃ (xs:List Int) (z:Nat),(nF y d ((n+2:Nat):Int) ((i:Int),u,q)).run=some (.inl ((i:Int)-1,xs,q.set i (z:Int)))/\z<4294967296/\qi xs/\xs.length=u.length/\xs.take i=u.take i/\nv (xs.drop i)<nv d /\
   nv (xs.drop i)+z*nv d=lm u i+4294967296*nv (u.drop (i+1)):=by
 have hwd:=UX (a:=u) (i:=i) (Z)
 have hW:=zfa (bV R i) wO
 rw[<- hwd]at hW
 obtain⟨x,hg,N,g1,g2,hWp⟩:=z0f d J n hn FQ (u.drop i) (mn R i) (by rw[List.length_drop]; omega) hW
 have hdp:0<nv d:=zG (xB _) wO
 obtain⟨xs,hr,Dz,hxn,hxt,O1⟩:=z0c d J (Z) x N u R (Z) i hiu hWp (zpR g2)
 have zdk:=digit hdp g1 g2
 rw[zdk]at O1
 rw[rU,rU,rU]at hg
 have hdq:nv (u.drop i) / nv d<4294967296:=zG g1 N
 have zdx:nv (xs.drop i)<nv d:=by
  have h1:=qC (nv (u.drop i)) (nv d)
  have X:=zV (nv (u.drop i)) hdp
  grind
 refine⟨xs,nv (u.drop i) / nv d,?_,hdq,Dz,hxn,hxt,zdx,by rw[O1,hwd]⟩
 have hx1:∀ c:Bool,c=decide (nv (u.drop i)<x*nv d)->(if c=true then xr ((x:Int)-1)else(x:Int))=((nv (u.drop i) / nv d:Nat):Int):=by
  intro c hc
  rw[<- zdk]
  by_cases cc:nv (u.drop i)<x*nv d
  ·have Yw:x≠0:=by intro h; subst h; omega
   rw[hc,decide_eq_true cc,if_pos rfl,if_pos cc,jm (Z) (Z)]; omega
  ·grind
 generalize nv (u.drop i) / nv d=z at *
 clear g1 g2 O1 zdk hW hWp wO zdx hwd
 have ei:qj ((i:Int)-1)=(i:Int)-1:=qo (Z) (Z)
 have a0:qj ((i:Int)+((n+2:Nat):Int))=((i+(n+1+1):Nat):Int):=by rw[qo (Z) (Z)]; omega
 have a1:qj (((i+(n+1+1):Nat):Int)-1)=((i+(n+1):Nat):Int):=by rw[qo (Z) (Z)]; omega
 have a2:qj (((i+(n+1+1):Nat):Int)-2)=((i+n:Nat):Int):=by rw[qo (Z) (Z)]; omega
 have a3:qj (((n+2:Nat):Int)-1)=((n+1:Nat):Int):=by rw[qo (Z) (Z)]; omega
 have a4:qj (((n+2:Nat):Int)-2)=((n:Nat):Int):=by rw[qo (Z) (Z)]; omega
 have a5:qj (((i+(n+1+1):Nat):Int)+1)=((i+(n+1+1)+1:Nat):Int):=i1 _ (Z)
 have zpI:i+(n+1+1)+1-i=d.length+1:=Z
 unfold nF
 simp only[ei,a0,a1,a2,a3,a4,a5]
 rw[vP (qp)]
 rw[vS _ (Z) (Z),fP _ rfl (Z),vS _ (Z) (Z),fP _ rfl (Z),vS _ (Z) (Z),fP _ rfl (Z),vS _ (Z) (Z),vS _ (Z) (Z)]
 simp only[zA,Nat.zero_add,bA,mT R,bH J,zpI]
 rw[zx hg]
 have hc:=hx1 _ rfl
 rw[zx (a:=((z:Int),xs,q)) ?_]
 ·simp only[JI hdq]
  rw[vS _ (Z) (Z),fP _ rfl (Z),bq _ (qp) rfl (qp),bq _ rfl rfl rfl,xj rfl,gn _ (qp),wg]
 ·rw[W8 _ (Z) (Z) (Z),xj rfl,xj rfl,zx hr]
  simp only[ID]
  by_cases cc:nv (u.drop i)<x*nv d
  ·rw[if_pos (decide_eq_true cc)]at hc ⊢
   rw[bq _ rfl rfl rfl,bq _ (Z) rfl (Z),xj rfl,xj rfl,wg,hc]
  ·rw[if_neg (by simpa using cc)]at hc ⊢
   rw[bq _ rfl rfl rfl,bq _ (Z) rfl (Z),xj rfl,xj rfl,wg,hc]
theorem TJ(d:List Int)(J:qi d)(m n:Nat)(hn:d.length=n+2)(hm:n+2<=m)(lm':m<=999999990)(FQ:2147483648<=lm d (n+1))(u0:List Int)(hu0:qi u0)(hlu:u0.length=m+1)
  (ud:nv (u0.drop (m-(n+2)+1))<nv d) (y:Int) :
  ∃ r:List Int×List Int,(KN y d ((n+2:Nat):Int) (((m-(n+2):Nat):Int),u0,M (m-(n+2)+1) 0)).run=some r/\qi r.1/\r.1.length=m+1/\qi r.2/\r.2.length=m-(n+2)+1/\nv r.1<nv d/\nv u0=nv r.2*nv d+nv r.1:=by
 refine T.cJ (λs:Int×List Int×List Int=>∃ k:Nat,s.1=(k:Int)-1/\k<=m-(n+2)+1/\qi s.2.1/\s.2.1.length=m+1/\qi s.2.2/\s.2.2.length=m-(n+2)+1/\s.2.1.take k=u0.take k /\
   nv (s.2.1.drop k)<nv d/\nv (u0.drop k)=nv (s.2.2.drop k)*nv d+nv (s.2.1.drop k))
  (λs=>(s.1+1).toNat) _ ?_ ⟨m-(n+2)+1,qp,zJ _,hu0,hlu,vo _,qp,rfl,ud,qp⟩
 rintro⟨_,u,q⟩ ⟨k,rfl,hk,R,hul,hq,hql,htk,wO,hv⟩
 simp only at R hul hq hql htk wO hv ⊢
 cases k with
 | zero =>
  right
  refine⟨(u,q),?_,R,hul,hq,hql,wb,wb⟩
  unfold nF
  simp
 | succ i =>
  left
  obtain⟨xs,z,hr,hz,Dz,hxn,hxt,hxm,O1⟩:=Mp d J n hn (Z) FQ y i (Z) u q R (Z) (Z) hq (Z) wO
  have e1:((i+1:Nat):Int)-1=(i:Int):=Z
  refine⟨((i:Int)-1,xs,q.set i (z:Int)),wb,⟨i,rfl,Z,Dz,hxn.trans hul,kg hq _ hz,wb,?_,hxm,?_⟩,qp⟩
  ·simp only
   have:=congrArg (List.take i) htk
   grind
  ·simp only
   rw[set_drop _ (Z),zA,UX (a:=u0) (Z),<- Mo htk (show i<i+1 by omega)]
   grind
theorem z2F{A B S Q hl:Nat}(hS:0<S)(h:A*S=Q*(B*S)+hl)(hR:hl<B*S):Q=A / B/\hl / S=A % B:=by
 have hB:0<B:=zO λz=>by subst z; simp at hR
 have h1:=qC hl S
 have h3:A*S=S*(Q*B+hl / S)+hl % S:=by
  grind
 have h4:hl % S=0:=by
  have:=congrArg (· % S) h3
  simp only[Nat.mul_mod_left]at this
  rw[qG,Nat.add_mul_mod_self_left,Nat.mod_mod]at this
  grind
 rw[h4,qH,zE A]at h3
 have h5:=qZ hS h3
 have h6:hl / S<B:=(zM hS).2 hR
 constructor
 ·rw[h5,zE,Nat.mul_add_div hB,qI h6,qH]
 ·rw[h5,zE,Nat.mul_add_mod,qS h6]
theorem z4C{A S P D oE h2:Nat}(hA:A<D*P)(hS:S<=2147483648)(hV:2147483648*P<=oE)(hX:h2*D<=A*S)(hD:0<D)(hS0:0<S):h2<oE:=by
 have h1:A*S<D*oE:=by
  have a1:A*S<D*P*S:=qD hA hS0
  have a2:D*P*S<=D*oE:=by
   have:P*S<=oE:=by
    have:=zK P hS
    grind
   rw[qJ]
   exact zK D this
  omega
 have X:h2*D<oE*D:=by rw[zE oE]; exact zG hX h1
 exact zU X
theorem DM(a b:List Int)(ha:qi a)(I:qi b)(la:a.length<=100000000)(n:Nat)(hbn:b.length=n+2)(hba:b.length<=a.length)(FQ:lm b (n+1)≠0) :
  (J8 a b).run=some (vf (nv a / nv b),vf (nv a % nv b)):=by
 have ht:=bV I (n+1)
 obtain⟨s,hs,hs1,hs2,hs3⟩:=z3t (x:=lm b (n+1)) (Z) ht
 have zih:2 ^ s<=2147483648:=by
  have:2 ^ s<=2 ^ 31:=zZ (Z) (Z)
  exact this
 have Va:0<2 ^ s:=zT (Z)
 have hBt:=zn9 b n hbn
 -- the divisor
 have zbl:nv b*2 ^ s<4294967296 ^ b.length:=by
  have h1:=wF b (n+1)
  rw[jL (Z)]at h1
  have X:=cq I (n+1)
  have h3:nv b<4294967296 ^ (n+1)*(lm b (n+1)+1):=by rw[h1,qO]; omega
  rw[hbn]
  have h4:(lm b (n+1)+1)*2 ^ s<=4294967296:=by
   have hm:4294967296=2 ^ (32-s)*2 ^ s:=fJ s (Z)
   have h5:lm b (n+1)<2 ^ (32-s):=by
    rw[hm]at hs3
    exact zU hs3
   have:=Y (2 ^ s) (show lm b (n+1)+1<=2 ^ (32-s)from h5)
   grind
  have h5:nv b*2 ^ s<4294967296 ^ (n+1)*(lm b (n+1)+1)*2 ^ s:=qD h3 Va
  have h6:4294967296 ^ (n+1)*(lm b (n+1)+1)*2 ^ s<=4294967296 ^ (n+2):=by
   rw[qJ,zF 4294967296 (n+1)]
   exact zK _ h4
  grind
 obtain⟨d,J,FF,hdn,hdv⟩:=XN b I (Z) s b.length hs1 (zJ _) (Z) zbl
 have zhS:nv a*2 ^ s<4294967296 ^ (a.length+1):=by
  have h1:=QW ha
  rw[zF]
  exact qY h1 (zQ zih (Z)) (Z)
 obtain⟨u,hu,hul,hun,huv⟩:=XN a ha (Z) s (a.length+1) hs1 (Z) (Z) zhS
 -- fH highest limb
 have zbh:2147483648<=lm d (n+1):=by
  have h1:=wF d (n+1)
  rw[jL (Z),hdv]at h1
  have X:=cq FF (n+1)
  have h3:=wF b (n+1)
  rw[jL (Z)]at h3
  have h4:4294967296 ^ (n+1)*(lm b (n+1)*2 ^ s)<=nv b*2 ^ s:=by
   rw[<- qJ]
   exact Y _ (Z)
  have h5:4294967296 ^ (n+1)*2147483648<=nv b*2 ^ s:=zQ (zK _ hs2) h4
  have h6:4294967296 ^ (n+1)*2147483648<4294967296 ^ (n+1)*(lm d (n+1)+1):=by
   rw[qO]; omega
  have:=Nat.lt_of_mul_lt_mul_left h6
  omega
 have ud:nv (u.drop (a.length-(n+2)+1))<nv d:=by
  have h1:=iU u (a.length-(n+2)+1) (Z)
  have X:nv (u.drop (a.length-(n+2)+1))*4294967296 ^ (a.length-(n+2)+1)<=nv a*2 ^ s:=by
   rw[<- huv,h1,zE]; omega
  have h3:2147483648*4294967296 ^ (n+1)<=nv d:=by
   have h4:=wF d (n+1)
   rw[jL (Z)]at h4
   have h5:=zK (4294967296 ^ (n+1)) zbh
   rw[zE 2147483648]; omega
  have h4:nv a<4294967296 ^ (a.length-(n+2)+1)*4294967296 ^ (n+1):=by
   rw[<- qA,show a.length-(n+2)+1+(n+1)=a.length by omega]
   exact QW ha
  exact z4C h4 zih h3 X (Ix _) Va
 obtain⟨⟨xu,xq⟩,hr,hxu,hxun,hxq,hxqn,hxlt,O1⟩:=TJ d FF a.length n (Z) (Z) (Z) zbh u hul (Z) ud (s:Int)
 simp only at hxu hxun hxq hxqn hxlt O1
 rw[huv,hdv]at O1
 rw[hdv]at hxlt
 obtain⟨f1,f2⟩:=z2F Va O1 hxlt
 -- the text
 have e1:qj ((b.length:Int)-1)=((n+1:Nat):Int):=by rw[qo (Z) (Z)]; omega
 have es:xr (s:Int)=s:=lL (Z)
 have e2:qj ((a.length:Int)+1)=((a.length+1:Nat):Int):=i1 _ (Z)
 have e3:qj (qj ((a.length:Int)-((n+2:Nat):Int))+1)=((a.length-(n+2)+1:Nat):Int):=by rw[qo (x:=(a.length:Int)-((n+2:Nat):Int)) (Z) (Z),qo (Z) (Z)]; omega
 have e4:qj (((a.length-(n+2)+1:Nat):Int)-1)=((a.length-(n+2):Nat):Int):=im1 _ (Z)
 have e5:qj (s:Int)=s:=qo (Z) (Z)
 have e6:qj (0-(s:Int)) = -(s:Int):=by rw[qo (Z) (Z)]; omega
 unfold J8
 simp only[e1,e2,bA,bH I]
 rw[vS _ (Z) (Z),zx hs]
 simp only[es]
 rw[zx hu,zx J]
 simp only[e3,e4,e5,e6,zA,zW,Nat.zero_add,qF,List.take_length,hdn,hbn]
 rw[T.run_mk _ (Z) (Z) (Z) (Z),xj rfl,bq _ rfl rfl rfl,bq _ rfl rfl rfl,xj rfl,Hn]
 have zp8:d.take (n+2)=d:=zI (Z)
 simp only[zp8]
 rw[zx hr]
 simp only[List.take_length]
 rw[xj rfl,xj rfl,zx (bP xq hxq (Z)),W8 _ (Z) (Z) (Z)]
 have ec:uI (e:=.int .u32) 0 ((n+2:Nat):Int) xu=xu.take (n+2):=by unfold uI; simp only[zA,Int.toNat_zero,qF]
 have hxt:nv (xu.take (n+2))=nv xu:=by
  have h1:=iU xu (n+2) (Z)
  have X:=XR hxu (n+2) (Z) (Nat.lt_trans hxlt (by rw[<- hbn]; exact zbl))
  rw[X]at h1; omega
 rw[ec]
 have hsh:(mr (xu.take (n+2)) (-(s:Int))).run=some (vf (nv xu / 2 ^ s)):=by
  rcases qB s with z | z
  ·subst z
   have:=HV (xu.take (n+2)) (Qe hxu _) (by simp; omega) 0 (Z)
   rw[hxt]at this
   simpa using this
  ·have:=HU (xu.take (n+2)) (Qe hxu _) (by simp; omega) s (Z) z
   rw[hxt]at this
   exact this
 rw[zx hsh,wg,f2,f1]
theorem za0{A:Nat}(k:Nat)(h:(vf A).length=k+1):lm (vf A) k≠0:=by
 intro hz
 have h1:=wF (vf A) k
 rw[jL (Z),hz,Nat.mul_zero,qH,vK]at h1
 have X:=cq (xk A) k
 have:=u7.2 (show A<4294967296 ^ k by omega)
 omega
theorem iJ(a b:List Int)(ha:qi a)(I:qi b)(la:a.length<=100000000)(lb:b.length<=100000000) :
  (dI a b).run=some (if nv b=0 then([],[],false)else(vf (nv a / nv b),vf (nv a % nv b),true)):=by
 have qa:=wq ha
 have qb:=wq I
 unfold dI
 rw[zx (bP a ha (Z)),zx (bP b I (Z))]
 generalize nv a=A at *
 generalize nv b=B at *
 by_cases hB:B=0
 ·subst hB
  rw[kH]; simp
 ·have ki:(vf B).length≠0:=by
   intro h
   exact hB (cr.1 (U h))
  rw[if_neg hB,je (by simpa using ki),zx (KJ _ _ (xk A) (xk B) (Z) (Z)),vK,vK]
  by_cases wO:A<B
  ·rw[vP (by unfold JS; rw[if_pos wO]; rfl),zx (Z5 _ (xk A) (Z)),wg,vK,qI wO,qS wO,kH]
  ·rw[je (by unfold JS; rw[if_neg wO]; split<;>simp)]
   by_cases h1:(vf B).length=1
   ·-- by one limb
    have La:vf B=[(B:Int)]:=by
     rw[WI hB]at h1 ⊢
     have:B / 4294967296=0:=by
      have:(vf (B / 4294967296)).length=0:=by simpa using h1
      exact cr.1 (U this)
     rw[this,kH]
     congr 1; omega
    have hBl:B<4294967296:=by
     have:=u7.1 (Nat.le_of_eq h1)
     simpa using this
    have e0:nth (vf B) 0 0=(B:Int):=by rw[La]; rfl
    have hm:=zV A (zO hB)
    have hs:=Vi (vf A) (xk A) (Z) B (Z) hBl
    rw[vK]at hs
    rw[vP (by rw[h1]; rfl),vS _ (Z) (Z)]
    simp only[bA,e0]
    rw[zx hs]
    simp only[lL (show A % B<18446744073709551616 by omega)]
    rw[zx (VV _ (Z)),wg]
   ·obtain⟨n,hn⟩:∃ n,(vf B).length=n+2:=⟨(vf B).length-2,Z⟩
    have hle:(vf B).length<=(vf A).length:=by
     rcases Nat.lt_or_ge (vf A).length (vf B).length with h | h
     ·exact absurd (Zq h) wO
     ·exact h
    have R:=DM (vf A) (vf B) (xk A) (xk B) (Z) n hn hle (za0 (n+1) (Z))
    rw[vK,vK]at R
    rw[je (by simp; omega),zx R,wg]
theorem KL(a b:List Int)(ha:qi a)(I:qi b)(la:a.length<=100000000)(lb:b.length<=100000000):(WG a b).run=some (vf (zL (nv a) (nv b))):=by
 have qa:=wq ha
 have qb:=wq I
 unfold WG
 rw[zx (Z5 a ha (Z)),zx (Z5 b I (Z))]
 generalize nv a=A at *
 generalize nv b=B at *
 have key:(GY (vf A,vf B)).run=some (vf (zL A B)):=by
  have:=XI (r:=rX) (λs:List Int×List Int=>∃ A B:Nat,s=(vf A,vf B)/\(vf A).length<=100000000/\(vf B).length<=100000000)
   (λs=>nv s.2) (λs=>vf (zL (nv s.1) (nv s.2))) ?_ (s:=(vf A,vf B)) ⟨A,B,rfl,Z,Z⟩
  ·rw[vK,vK]at this; exact this
  ·rintro _ ⟨A,B,rfl,hA,hB'⟩
   simp only[vK]
   by_cases hB:B=0
   ·right
    subst hB
    unfold rX
    rw[kH]; simp
   ·left
    have J:=iJ (vf A) (vf B) (xk A) (xk B) hA hB'
    rw[vK,vK,if_neg hB]at J
    have hm:=zV A (zO hB)
    have ki:(vf B).length≠0:=λh=>hB (cr.1 (U h))
    refine⟨(vf B,vf (A % B)),?_,⟨B,A % B,rfl,hB',?_⟩,by simpa using hm,?_⟩
    ·unfold rX
     rw[vP (by simp; omega),zx J,wg]
    ·have:(vf (A % B)).length<=(vf B).length:=u7.2 (Nat.lt_trans hm (u7.1 (zJ _)))
     omega
    ·simp only[vK]
     rw[Nat.gcd_comm,<- Nat.gcd_rec,Nat.gcd_comm]
 rw[zx key,wg]
theorem H4:qi [(1:Int)]:=by
 intro x N; simp at N; omega
@[simp] theorem Da:zb (.int .u8)=(0:Int):=rfl
theorem z6W(r:Nat):uC ([48,49,50,51,52,53,54,55,56,57]:q9) ((r % 10:Nat):Int)=((48+r % 10:Nat):Int):=by
 have key:∀ d:Fin 10,uC ([48,49,50,51,52,53,54,55,56,57]:q9) ((d.val:Nat):Int)=((48+d.val:Nat):Int):=xo
 exact key ⟨r % 10,Z⟩
theorem T3(q:List Int)(rest:Nat)(hr:rest<4294967296)(xs:List Int)(N:xs.length<=1000000000):(Ql q ((rest:Int),0,xs)).run=some (xs++Qu 9 rest):=by
 have:=XI (r:=iN q) (λs:Int×Int×List Int=>∃ (r k:Nat),s.1=(r:Int)/\r<4294967296/\s.2.1=(k:Int)/\k<=9/\s.2.2.length<=1000000000+k)
  (λs=>9-s.2.1.toNat) (λs=>s.2.2++Qu (9-s.2.1.toNat) s.1.toNat) ?_ (s:=((rest:Int),0,xs)) ⟨rest,0,rfl,hr,rfl,Z,Z⟩
 ·unfold Ql
  grind
 ·rintro⟨_,_,ys⟩ ⟨r,k,rfl,h1,rfl,X,h3⟩
  simp only at h3 ⊢
  by_cases hk:k<9
  ·left
   have e1:xJ (r:Int) 10=((r % 10:Nat):Int):=by rw[sI (Z)]; rfl
   have e2:jT (xI (r:Int) 10)=((r / 10:Nat):Int):=by rw[ZF (Z)]; exact JI (n:=r / 10) (Z)
   refine⟨(((r / 10:Nat):Int),((k+1:Nat):Int),ys++[((48+r % 10:Nat):Int)]),?_,⟨r / 10,k+1,rfl,Z,rfl,Z,wb⟩,wb,?_⟩
   ·unfold iN
    simp only[e1,z6W]
    rw[vP (wb)]
    simp(disch:=omega) [oI]
   ·simp only[zA]
    rw[show 9-k=(9-(k+1))+1 by omega,Qu]
    simp
  ·right
   have:k=9:=Z
   subst this
   unfold iN
   simp[Qu]
theorem CX(n j:Nat)(h:n<4294967296 ^ j):(blk n).length<=18*j:=by
 induction j generalizing n with
 | zero =>
  have:n=0:=by simpa using h
  subst this; rw[Xe]; simp
 | succ j ih =>
  by_cases hn:n=0
  ·grind
  ·rw[Yn hn]
   by_cases X:n / 1000000000=0
   ·rw[X,Xe]; simp[Iy]; omega
   ·rw[Yn X]
    have h3:n / 1000000000 / 1000000000<4294967296 ^ j:=by
     grind
    have:=ih _ h3
    simp[Iy]; omega
theorem LX(n:Nat)(hn:(vf n).length<=1000000):(Qk (vf n,[])).run=some (blk n):=by
 have hbl:=CX n (vf n).length (u7.1 (zJ _))
 have:=XI (r:=iM) (λs:List Int×List Int=>∃ m:Nat,s.1=vf m/\(vf m).length<=1000000/\s.2.length+(blk m).length<=18000000)
  (λs=>nv s.1) (λs=>s.2++blk (nv s.1)) ?_ (s:=(vf n,[])) ⟨n,rfl,hn,wb⟩
 ·unfold Qk
  simpa using this
 ·rintro⟨_,xs⟩ ⟨m,rfl,h1,X⟩
  simp only[vK]at X ⊢
  by_cases hm:m=0
  ·right
   subst hm
   unfold iM
   rw[kH,Xe]; simp
  ·left
   have ki:(vf m).length≠0:=λh=>hm (cr.1 (U h))
   have hs:(pK (vf m) 1000000000).run=some (vf (nv (vf m) / 1000000000),((nv (vf m) % 1000000000:Nat):Int)):=Vi (vf m) (xk m) (Z) 1000000000 (Z) (Z)
   rw[vK]at hs
   have hbm:=Yn hm
   have hg:=T3 (vf (m / 1000000000)) (m % 1000000000) (Z) xs (Z)
   have hlen:(vf (m / 1000000000)).length<=(vf m).length:=u7.2 (zG (qK _ _) (u7.1 (zJ _)))
   refine⟨(vf (m / 1000000000),xs++Qu 9 (m % 1000000000)),?_,⟨m / 1000000000,rfl,Z,?_⟩,?_,?_⟩
   ·unfold iM
    rw[vP (wb),zx hs]
    rw[bq _ rfl rfl rfl,xj rfl,zx hg,bq _ rfl rfl rfl,xj rfl,wg]
   ·grind
   ·simp only[vK]; omega
   ·simp only[vK]
    grind
theorem z09(l:List Int)(z:Nat)(R:l≠[])(zi1:∀ x,l.getLast? = some x->x≠48)(hn:l.length+z<=100000000) :
  (J3 ((0,(l++M z 48).length),l++M z 48)).run=some ((0,l.length),l++M z 48):=by
 generalize hX:l++M z 48=h2
 have hXl:h2.length=l.length+z:=by rw[<- hX]; simp
 have V9:0<l.length:=qT.2 R
 have Tc:∀ p:Nat,wm h2 p 0=if p<l.length then wm l p 0 else if p<l.length+z then 48 else 0:=by
  intro p
  unfold wm
  grind
 have:=XI (r:=iO) (λs:(Nat×Nat)×List Int=>∃ k:Nat,s.1=(0,l.length+k)/\k<=z/\s.2=h2) (λs=>s.1.2) (λ_=>((0,l.length),h2)) ?_ (s:=((0,h2.length),h2)) ⟨z,by rw[hXl],zJ _,rfl⟩
 ·exact this
 ·rintro⟨w,y⟩ ⟨k,h1,hk,X⟩
  simp only at h1 X
  rw[h1,X]
  have e1:qj (((l.length+k:Nat):Int)-1)=((l.length+k-1:Nat):Int):=by rw[qo (Z) (Z)]; omega
  have hg:=Tc (l.length+k-1)
  cases k with
  | zero =>
   right
   have hgl:wm l (l.length-1) 0≠48:=by
    refine zi1 _ ?_
    rw[List.getLast?_eq_getElem?]
    unfold wm
    grind
   rw[qH]at hg
   rw[if_pos (Z)]at hg
   unfold iO
   simp only[qH]at e1 ⊢
   simp only[e1,zA,Nat.zero_add,Da,hg]
   rw[xj (λ_=>⟨⟨Z,Z⟩,⟨rfl,Z⟩⟩),je (by simp[hgl]),xj rfl,xj rfl,wg]
  | succ k =>
   left
   refine⟨((0,l.length+k),h2),?_,⟨k,rfl,Z,rfl⟩,qp,rfl⟩
   unfold iO
   simp only[e1,zA,Nat.zero_add,Da,hg]
   rw[xj (λ_=>⟨⟨Z,Z⟩,⟨rfl,Z⟩⟩),vP (by simp; omega),W8 _ (Z) (Z) (Z),xj rfl,xj rfl,wg]
   simp
theorem IC(xs:List Int)(n:Nat)(hn:n<=xs.length)(N:xs.length<=1000000000):∃ ys:List Int,(kA (0,n) xs).run=some ys/\ys.length=xs.length/\ys.take n=(xs.take n).reverse:=by
 have e0:qj ((n:Int)-1)=(n:Int)-1:=qo (Z) (Z)
 have loop:∃ ys:List Int,(dh ((0,n),0,(n:Int)-1,xs)).run=some ys/\ys.length=xs.length/\∀ p,p<n->ys[p]? = xs[n-1-p]? := by
  refine T.cJ (λs:(Nat×Nat)×Int×Int×List Int=>s.1=(0,n)/\∃ i:Nat,s.2.1=(i:Int)/\s.2.2.1=(n:Int)-1-(i:Int)/\i<=n/\s.2.2.2.length=xs.length/\2*i<=n+1/\∀ p,p<n->s.2.2.2[p]? = if p<i\/n<p+i+1 then xs[n-1-p]? else xs[p]?)
   (λs=>n-s.2.1.toNat) _ ?_ ⟨rfl,0,rfl,qp,Z,rfl,Z,λp hp=>by rw[if_neg (Z)]⟩
  rintro⟨_,_,_,zs⟩ ⟨rfl,i,rfl,rfl,hi,R,h2i,hv⟩
  simp only at R hv ⊢
  by_cases wO:(i:Int)<(n:Int)-1-(i:Int)
  ·left
   have hj:((n:Int)-1-(i:Int)).toNat=n-1-i:=Z
   have ej:qj ((n:Int)-1-(i:Int)-1)=(n:Int)-1-((i+1:Nat):Int):=by rw[qo (Z) (Z)]; omega
   refine⟨((0,n),((i+1:Nat):Int),(n:Int)-1-((i+1:Nat):Int),(zs.set i (wm zs (n-1-i) 0)).set (n-1-i) (wm zs i 0)),?_,⟨rfl,i+1,rfl,rfl,Z,by simpa using R,Z,?_⟩,by simp; omega⟩
   ·unfold jk
    simp only[hj,zA,Nat.zero_add,Da,i1 i (Z),ej]
    rw[vP (decide_eq_true wO),vS _ (Z) (Z),fP _ rfl (Z),vS _ (Z) (Z),fP _ rfl (Z),vS _ (Z) (Z),fP _ rfl (Z),vS _ (Z) (Z),fP _ (qp) (by simp; omega),xj rfl,gn _ (qp),wg]
   ·intro p hp
    have g1:=hv i (Z)
    have g2:=hv (n-1-i) (Z)
    rw[if_neg (Z)]at g1 g2
    simp only[List.getElem?_set,List.length_set]
    by_cases c1:n-1-i=p
    ·rw[if_pos c1,if_pos (Z),if_pos (Z)]
     unfold wm
     grind
    ·rw[if_neg c1]
     by_cases c2:i=p
     ·rw[if_pos c2,if_pos (Z),if_pos (Z)]
      unfold wm
      grind
     ·grind
  ·right
   refine⟨zs,?_,R,λp hp => ?_⟩
   ·unfold jk
    rw[je (decide_eq_false wO),gn _ rfl,wg]
   ·grind
 obtain⟨ys,hr,R,hv⟩:=loop
 refine⟨ys,?_,R,?_⟩
 ·unfold kA
  rw[gn _ rfl,gn _ rfl,e0,zx hr,gn _ rfl,wg]
 ·apply List.ext_getElem?
  intro p
  by_cases hp:p<n
  ·have Zm:(xs.take n).length=n:=by simp; omega
   rw[qW,if_pos hp,hv p hp,List.getElem?_reverse (Z),Zm,qW,if_pos (Z)]
  ·rw[qR (by simp; omega),qR (by simp; omega)]
theorem Be(a:List Int)(ha:qi a)(la:a.length<=1000000):(mq a).run=some (pr (nv a)):=by
 have qa:=wq ha
 unfold mq
 rw[zx (Z5 a ha (Z))]
 generalize nv a=n at *
 by_cases hn:n=0
 ·subst hn; rw[kH]; simp[pr]
 ·have ki:(vf n).length≠0:=λh=>hn (cr.1 (U h))
  rw[je (by simpa using ki),bq _ rfl rfl rfl,gn _ rfl,zx (LX n (Z))]
  have hbl:=CX n (vf n).length (u7.1 (zJ _))
  obtain⟨z,hz⟩:=z0L n
  have hzl:=congrArg List.length hz
  rw[List.length_append,zW]at hzl
  have ud:=z09 (rd n) z (zbV hn) (zas n) (Z)
  rw[<- hz]at ud
  obtain⟨ys,hr,R,hv⟩:=IC (blk n) (rd n).length (Z) (Z)
  rw[gn _ rfl,gn _ rfl,zx ud]
  simp only[Hn]
  rw[xj rfl,xj rfl,zx hr,gn _ R.symm,wg]
  simp only[Nat.zero_add,qF]
  rw[hv,hz,List.take_left,<- z14]
  unfold pr
  rw[if_neg hn]
def XT(neg:Bool)(n d:Nat):Rat:=if n=0\/d=0 then(false,[],[1],())else(neg,vf (n / zL n d),vf (d / zL n d),())
def zmY(k:Nat)(a:Rat):Prop:=qi a.2.1/\qi a.2.2.1/\a.2.1.length<=k/\a.2.2.1.length<=k
theorem Rl:vf 1=[1]:=by rw[WI (Z),show 1 / 4294967296=0 from rfl,kH]; rfl
theorem gS{m n:Nat}(h:m<=n):(vf m).length<=(vf n).length:=u7.2 (zG h (u7.1 (zJ _)))
theorem zap(neg:Bool)(n d k:Nat)(hk:1<=k)(hn:(vf n).length<=k)(J:(vf d).length<=k):zmY k (XT neg n d):=by
 unfold XT
 split
 ·exact⟨wE,H4,qp,wb⟩
 ·exact⟨xk _,xk _,zQ (gS (qK _ _)) hn,zQ (gS (qK _ _)) J⟩
theorem MN(neg:Bool)(n d:List Int)(hn:qi n)(J:qi d)(ln:n.length<=100000000)(ld:d.length<=100000000):(sa neg n d).run=some (XT neg (nv n) (nv d)):=by
 have qn:=wq hn
 have qd:=wq J
 unfold sa
 rw[zx (Z5 n hn (Z)),zx (Z5 d J (Z))]
 generalize nv n=hx at *
 generalize nv d=D at *
 unfold XT
 by_cases h:hx=0\/D=0
 ·rw[if_pos h]
  have e:(((vf hx).length:Int)==0||((vf D).length:Int)==0)=true:=by
   rcases h with rfl | rfl<;>simp[kH]
  have h1:(iL 1).run=some (vf 1):=VV 1 (Z)
  rw[vP e,zx h1,wg,Rl]
 ·rw[if_neg h]
  have hN:hx≠0:=λz=>h (.inl z)
  have hD:D≠0:=λz=>h (.inr z)
  have n1:(vf hx).length≠0:=λh=>hN (cr.1 (U h))
  have n2:(vf D).length≠0:=λh=>hD (cr.1 (U h))
  have e:(((vf hx).length:Int)==0||((vf D).length:Int)==0)=false:=by rw[Bool.or_eq_false_iff]; exact⟨wb,wb⟩
  have hg:=KL (vf hx) (vf D) (xk hx) (xk D) (Z) (Z)
  rw[vK,vK]at hg
  have hgp:zL hx D≠0:=λz=>hN (Nat.gcd_eq_zero_iff.1 z).1
  have hgl:(vf (zL hx D)).length<=100000000:=zQ (gS (xF D (zO hN))) (Z)
  have h1:=iJ (vf hx) (vf (zL hx D)) (xk hx) (xk _) (Z) hgl
  have X:=iJ (vf D) (vf (zL hx D)) (xk D) (xk _) (Z) hgl
  rw[vK,vK,if_neg hgp]at h1 X
  rw[je e,zx hg,zx h1]
  rw[zx X,wg]
theorem z1m(n d:Nat)(h:zL n d≠0):zL (n / zL n d) (d / zL n d)=1:=by
 have:=Nat.gcd_mul_left (zL n d) (n / zL n d) (d / zL n d)
 rw[Nat.mul_div_cancel' (Nat.gcd_dvd_left n d),Nat.mul_div_cancel' (Nat.gcd_dvd_right n d)]at this
 have X:zL n d*zL (n / zL n d) (d / zL n d)=zL n d*1:=Z
 exact qZ (zO h) X
theorem z00(neg:Bool)(n d:Nat):XT (XT neg n d).1 (nv (XT neg n d).2.1) (nv (XT neg n d).2.2.1)=XT neg n d:=by
 by_cases h:n=0\/d=0
 ·have e:XT neg n d=(false,[],[1],()):=by unfold XT; rw[if_pos h]
  rw[e]; rfl
 ·have e:XT neg n d=(neg,vf (n / zL n d),vf (d / zL n d),()):=by unfold XT; rw[if_neg h]
  rw[e]
  have hn:n≠0:=λz=>h (.inl z)
  have J:d≠0:=λz=>h (.inr z)
  have hg:zL n d≠0:=λz=>hn (Nat.gcd_eq_zero_iff.1 z).1
  have h1:n / zL n d≠0:=Nat.div_ne_zero_iff.2 ⟨hg,xF d (zO hn)⟩
  have X:d / zL n d≠0:=Nat.div_ne_zero_iff.2 ⟨hg,Nat.gcd_le_right n (zO J)⟩
  simp only[vK]
  unfold XT
  rw[if_neg (wb),z1m n d hg,Nat.div_one,Nat.div_one]
def norm(a:Rat):Rat:=XT a.1 (nv a.2.1) (nv a.2.2.1)
theorem zeN(n k:Nat)(h:(vf n).length<=k):(pr n).length<=18*k+1:=by
 unfold pr
 split
 ·simp
 ·obtain⟨z,hz⟩:=z0L n
  have h1:=CX n k (u7.1 h)
  have X:=congrArg List.length hz
  rw[List.length_append]at X
  rw[z14]
  simp only[kD,List.length_map,List.length_reverse]
  omega
end Go.AM.Lf
namespace Go.AM
namespace T
variable {α β σ ρ:Type}
theorem lC{t:T α}{Q:α->Prop}:t.wp Q↔∃ a,t.run=some a/\Q a:=⟨λh=>by obtain⟨a,h1,X⟩:=IV h; exact⟨a,yG.2 h1,X⟩,λ⟨a,h1,X⟩=>Y6 (yG.1 h1) X⟩
theorem gD{t:T α}{a:α}{Q:α->Prop}(h:t.run=some a)(k:Q a):t.wp Q:=lC.2 ⟨a,h,k⟩
theorem zd{a:α}{Q:α->Prop}(h:Q a):(ret a).wp Q:=h
theorem zg{b:Bool}{t e:T α}{Q:α->Prop}(h1:b=true->t.wp Q)(X:b=false->e.wp Q):(ite b t e).wp Q:=⟨h1,X⟩
theorem wU{b:Bool}{t e:T α}{Q:α->Prop}(h:b=true)(k:t.wp Q):(ite b t e).wp Q:=by subst h; exact⟨λ_=>k,nofun⟩
theorem xl{b:Bool}{t e:T α}{Q:α->Prop}(h:b=false)(k:e.wp Q):(ite b t e).wp Q:=by subst h; exact⟨nofun,λ_=>k⟩
theorem zc{p:Prop}{t:T α}{Q:α->Prop}(h:p)(k:t.wp Q):(W p t).wp Q:=⟨h,k⟩
theorem qk{A:Type}{i:Int}{l:List A}{t:T α}{Q:α->Prop}(h:0<=i/\i<(l.length:Int))(k:t.wp Q):(oI i l t).wp Q:=⟨h,k⟩
theorem za{A:Type}{l:List A}{t:T α}{Q:α->Prop}(k:t.wp Q):(V l t).wp Q:=⟨rfl,k⟩
theorem zh{A:Type}{l:List A}{t:T α}{Q:α->Prop}(k:t.wp Q):(oC l t).wp Q:=⟨⟨rfl,rfl,rfl⟩,k⟩
theorem vG{a b:Nat}{t:T α}{Q:α->Prop}(h:a=b)(k:t.wp Q):(oM a b t).wp Q:=⟨⟨h,rfl,h⟩,h,k⟩
theorem vJ{A:Type}{l:List A}{k:Nat}{t:T α}{Q:α->Prop}(h:(l.length+1)*k<=140737488355328)(w:t.wp Q):(oA l k t).wp Q:=⟨⟨rfl,rfl,rfl,h⟩,w⟩
theorem vt{a b:q9}{t:T α}{Q:α->Prop}(h:a.length+b.length<=4611686018427387904)(k:t.wp Q):(oK a b t).wp Q:=⟨h,k⟩
theorem xe{t:T α}{f:α->T β}{Q:β->Prop}(h:t.wp λa=>(f a).wp Q):(t.bind f).wp Q:=by
 obtain⟨a,h1,X⟩:=lC.1 h
 obtain⟨b,X,h3⟩:=lC.1 X
 exact gD ((zx h1 f).trans X) h3
theorem xv{t:T α}{P Q:α->Prop}(h:t.wp P)(k:∀ a,P a->Q a):t.wp Q:=by
 obtain⟨a,h1,X⟩:=lC.1 h
 exact gD h1 (k a X)
theorem vx{r:σ->T (σ⊕ρ)}{Q:ρ->Prop}(hb:σ->Prop)(μ:σ->Nat){s:σ}(hs:hb s)
  (h:∀ s,hb s->(r s).wp λz=>match z with | .inl s'=>hb s'/\μ s'<μ s | .inr y=>Q y):(loop r s).wp Q:=by
 generalize hm:μ s=m
 induction m using zX generalizing s with
 | _ m ih =>
  obtain⟨z,h1,X⟩:=lC.1 (h s hs)
  cases z with
  | inl s' =>
   obtain⟨a,h3,h4⟩:=lC.1 (ih (μ s') (by have:=X.2; omega) X.1 rfl)
   exact gD ((WE h1).trans h3) h4
  | inr y=>exact gD (pI h1) X
theorem vY{f:α->T σ}{g:β->T σ}{z:α⊕β}{Q:σ->Prop}(h1:∀ a,z=.inl a->(f a).wp Q)(X:∀ b,z=.inr b->(g b).wp Q):(xM f g z).wp Q:=by
 cases z with
 | inl a=>exact h1 a rfl
 | inr b=>exact X b rfl
def le(t t':T α):Prop:=∀ v,t.leads v->t'.leads v
theorem le_rfl{t:T α}:le t t:=λ_ h=>h
theorem z7Y{t t':T α}{f f':α->T β}(h:le t t')(k:∀ a,le (f a) (f' a)):le (t.bind f) (t'.bind f'):=λv hv=>by
 obtain⟨a,h1,X⟩:=zi.1 hv
 exact zi.2 ⟨a,h a h1,k a v X⟩
theorem zdP{c:Bool}{t t' e e':T α}(h:le t t')(k:le e e'):le (ite c t e) (ite c t' e'):=λv hv=>hv.imp (λx=>⟨x.1,h v x.2⟩) λx=>⟨x.1,k v x.2⟩
theorem zdQ{p:Prop}{t t':T α}(h:le t t'):le (W p t) (W p t'):=λv hv=>⟨hv.1,h v hv.2⟩
theorem z81{r r':σ->T (σ⊕ρ)}{s:σ}(h:∀ s,le (r s) (r' s)):le (loop r s) (loop r' s):=λv hv=>by
 obtain⟨n,hn⟩:=(fj _).1 hv
 refine(fj _).2 ⟨n,?_⟩
 clear hv
 induction hn with
 | done k=>exact .done (h _ _ k)
 | step k _ ih=>exact .step (h _ _ k) ih
theorem z7Z{f f':α->T σ}{g g':β->T σ}{z:α⊕β}(h:∀ a,le (f a) (f' a))(k:∀ b,le (g b) (g' b)):le (xM f g z) (xM f' g' z):=by
 cases z with
 | inl a=>exact h a
 | inr b=>exact k b
theorem zdO{b b':(σ->T ρ)->σ->T ρ}(h:∀ F F',(∀ y,le (F y) (F' y))->∀ x,le (b F x) (b' F' x))(x:σ):le (fix b x) (fix b' x):=λv hv=>by
 have key:∀ n x,le (V8 b n x) (V8 b' n x):=by
  intro n
  induction n with
  | zero=>exact λ_=>le_rfl
  | succ n ih=>exact h _ _ ih
 obtain⟨n,hn⟩:=(mj b).1 hv
 exact(mj b').2 ⟨n,λm hm=>key m x v (hn m hm)⟩
theorem sM{b:(σ->T ρ)->σ->T ρ}(hb:σ->Prop)(μ:σ->Nat)(Q:σ->ρ->Prop)(hm:∀ g g',(∀ y,le (g y) (g' y))->∀ x,le (b g x) (b g' x))
  (h:∀ x,hb x->∀ g:σ->T ρ,(∀ y,hb y->μ y<μ x->(g y).wp (Q y))->(b g x).wp (Q x)) {x:σ} (N:hb x):(fix b x).wp (Q x):=by
 have up:∀ n x,le (V8 b n x) (V8 b (n+1) x):=by
  intro n
  induction n with
  | zero=>exact λ_ _ h=>h.elim
  | succ n ih=>exact hm _ _ ih
 have ups:∀ n m,n<=m->∀ x,le (V8 b n x) (V8 b m x):=by
  intro n m hnm
  induction hnm with
  | refl=>exact λ_=>le_rfl
  | step _ ih=>exact λx v hv=>up _ x v (ih x v hv)
 have key:∀ n x,hb x->μ x<n->(V8 b n x).wp (Q x):=by
  intro n
  induction n with
  | zero=>intro x _ h; omega
  | succ n ih=>exact λx N hn=>h x N _ λy hy wO=>ih y hy (Z)
 obtain⟨a,h1,X⟩:=IV (key _ x N (Nat.lt_succ_self _))
 exact Y6 ((mj b).2 ⟨_,λm hm=>ups _ m hm x a h1⟩) X
theorem HF{t:T α}{Q:α->Prop}{a:α}(h:t.wp Q)(k:t.run=some a):Q a:=by
 obtain⟨b,h1,X⟩:=lC.1 h
 cases h1.symm.trans k
 exact X
class Sp (t:T α) (pre:outParam Prop) (post:outParam (α->Prop)):Prop where sp:pre->t.wp post
theorem z8{t:T α}{f:α->T β}{pre:Prop}{post:α->Prop}{Q:β->Prop}[s:Sp t pre post](h:pre)(k:∀ a,post a->(f a).wp Q):(t.bind f).wp Q :=
 xe (xv (s.sp h) k)
theorem vI{t:T α}{pre:Prop}{post:α->Prop}{Q:α->Prop}[s:Sp t pre post](h:pre)(k:∀ a,post a->Q a):t.wp Q:=xv (s.sp h) k
end T
open PL Lf
theorem jb(x:Int):qj x=(x+9223372036854775808) % 18446744073709551616-9223372036854775808:=IntKind.wrap_i64 x
theorem dG{a:List Int}(h:qi a)(i:Nat)(x:Int):qi (a.set i (jT x)):=Ka h i (by rw[sO]; omega) (by rw[sO]; omega)
theorem yO{α:Type}(l:List α):xK 0 (List.take (0+l.length) l)=l:=qp
theorem cB{k:IntKind}:zb (.int k)=0:=rfl
namespace T
theorem go{p:Prop} (h:p:=by
 intros
 repeat' (with_reducible first
  | refine T.zd ?_
  | refine T.zg (λ_ => ?_) (λ_ => ?_)
  | refine T.za ?_
  | refine T.zh ?_
  | refine T.vG ?_ ?_
  | refine T.qk ?_ ?_
  | refine T.vJ ?_ ?_
  | refine T.vt ?_ ?_
  | refine T.zc ?_ ?_
  | refine T.vY (λ_ _ => ?_) (λ_ _ => ?_)
  | refine T.z8 ?_ (λ_ _ => ?_)
  | refine T.vI ?_ (λ_ _ => ?_)
  | refine T.xe ?_
  | dsimp only)
 all_goals grind [xf,uM,dH,jf,Xj,jb,dG,vo,wE,kf,yO,dY,cB,List.length_set,List.take_length]):p:=h
theorem mono{p:Prop} (h:p:=by
 intros
 repeat' (with_reducible first
  | exact le_rfl
  | apply_assumption
  | refine z7Y ?_ (λ_ => ?_)
  | refine zdP ?_ ?_
  | refine zdQ ?_
  | refine z81 (λ_ => ?_)
  | refine z7Z (λ_ => ?_) (λ_ => ?_)
  | refine zdO (λ_ _ _ _ => ?_) _
  | dsimp only[oI,V,oC,oM,oA,oK])):p:=h
theorem lp{σ ρ:Type}{r:σ->T (σ⊕ρ)}{Q:ρ->Prop}(hb:σ->Prop)(μ:σ->Nat){s:σ}(hs:hb s:=by grind)
  (h:∀ s,hb s->(r s).wp λz=>match z with | .inl s'=>hb s'/\μ s'<μ s | .inr y=>Q y:=by
 intros
 repeat' (with_reducible first
  | refine T.zd ?_
  | refine T.zg (λ_ => ?_) (λ_ => ?_)
  | refine T.za ?_
  | refine T.zh ?_
  | refine T.vG ?_ ?_
  | refine T.qk ?_ ?_
  | refine T.vJ ?_ ?_
  | refine T.vt ?_ ?_
  | refine T.zc ?_ ?_
  | refine T.vY (λ_ _ => ?_) (λ_ _ => ?_)
  | refine T.z8 ?_ (λ_ _ => ?_)
  | refine T.vI ?_ (λ_ _ => ?_)
  | refine T.xe ?_
  | dsimp only)
 all_goals grind [xf,uM,dH,jf,Xj,jb,dG,vo,wE,kf,yO,dY,cB,List.length_set,List.take_length]):(loop r s).wp Q:=T.vx hb μ hs h
end T
open T
instance (a:List Int):Sp (ue a) (qi a/\a.length<=4000000000) (λr=>qi r/\r.length<=a.length):=⟨λh=>gD (bP a h.1 h.2) ⟨xk _,wq h.1⟩⟩
end Go.AM
namespace Go.AM
open T PL Lf
def rg(a:Lf.Rat):Prop:=qi a.2.1/\qi a.2.2.1
def rl(a:Lf.Rat):Nat:=max a.2.1.length a.2.2.1.length
theorem tL(x:Int):xr x=x % 18446744073709551616:=IW x
def nm(a:Lf.Rat):Prop:=norm a=a
instance (d:List Int) (a:Int) (v:Int) (x3:List Int) (x4 x5:Int) (x6:List Int) (s:Int×Int×List Int):Sp (VS d a v x3 x4 x5 x6 (x6.length:Int) s) (s.2.1=0/\qi s.2.2/\0<=a/\a+x6.length<=s.2.2.length/\s.2.2.length<=4000000000) (λr=>qi r.2/\r.2.length=s.2.2.length):=⟨λh=>by
 unfold VS VU
 exact lp (λ(_,i,c)=>0<=i/\i<=x6.length/\qi c/\c.length=s.2.2.length) (λ(_,i,_)=>(x6.length-i).toNat)⟩
instance (d x:List Int) (s:Int×List Int):Sp (VR d x (x.length:Int) s) (s.1=0/\qi s.2/\s.2.length=d.length+x.length/\s.2.length<=2000000000) (λr=>qi r/\r.length=s.2.length):=⟨λh=>by
 unfold VR VT
 exact lp (λ(i,c)=>0<=i/\i<=x.length/\qi c/\c.length=s.2.length) (λ(i,_)=>(x.length-i).toNat)⟩
instance (a b:List Int):Sp (iK a b) (qi a/\qi b/\a.length+b.length<=1000000000) (λr=>qi r/\r.length<=a.length+b.length):=⟨λh=>by unfold iK; exact go⟩
instance (a b x:List Int) (s:Int×Int×List Int):Sp (VP a b x (x.length:Int) s) (s.2.1=0/\qi s.2.2/\s.2.2.length=x.length+1/\s.2.2.length<=2000000000) (λr=>qi r.2/\r.2.length=s.2.2.length):=⟨λh=>by
 unfold VP VQ
 exact lp (λ(_,i,c)=>0<=i/\i<=x.length/\qi c/\c.length=s.2.2.length) (λ(_,i,_)=>(x.length-i).toNat)⟩
instance (a b:List Int):Sp (J2 a b) (qi a/\qi b/\a.length+b.length<=1000000000) (λr=>qi r/\r.length<=max a.length b.length+1):=⟨λh=>by unfold J2; exact go⟩
instance (a b:List Int):Sp (tq a b) (qi a/\qi b/\a.length+b.length<=1000000000) (λr=>r=JS (nv a) (nv b)):=⟨λh=>gD (KJ a b h.1 h.2.1 (Z) (Z)) rfl⟩
instance (b x:List Int) (s:Int×Int×List Int):Sp (VW b x (x.length:Int) s) (s.2.1=0/\qi s.2.2/\s.2.2.length=x.length/\s.2.2.length<=2000000000) (λr=>qi r/\r.length=s.2.2.length):=⟨λh=>by
 unfold VW VX y7
 exact lp (λ(_,i,c)=>0<=i/\i<=x.length/\qi c/\c.length=s.2.2.length) (λ(_,i,_)=>(x.length-i).toNat)⟩
instance (a b:List Int):Sp (J5 a b) (qi a/\qi b/\a.length+b.length<=1000000000) (λr=>qi r.1/\r.1.length<=a.length):=⟨λh=>by unfold J5; exact go⟩
instance (a:Int):Sp (iL a) (0<=a/\a<18446744073709551616) (λr=>qi r/\r.length<=2/\r=vf a.toNat):=⟨λh=>by
 obtain⟨n,rfl⟩:=qN h.1
 exact gD (VV n (Z)) ⟨xk _,u7.2 (Z),rfl⟩⟩
instance (a b:List Int):Sp (WG a b) (qi a/\qi b/\a.length+b.length<=100000000) (λr=>r=vf (zL (nv a) (nv b))/\qi r/\r.length<=a.length+b.length):=⟨λh=>gD (KL a b h.1 h.2.1 (Z) (Z)) ⟨rfl,xk _,by
 have h1:=wq h.1
 have X:=wq h.2.1
 by_cases e:nv a=0
 ·rw[e,Nat.gcd_zero_left]; omega
 ·have:=gS (xF (nv b) (zO e)); omega⟩⟩
instance (a:List Int):Sp (mq a) (qi a/\a.length<=1000000) (λr=>r.length<=18*a.length+1):=⟨λh=>gD (Be a h.1 h.2) (zeN _ _ (wq h.1))⟩
instance (a b:List Int):Sp (dI a b) (qi a/\qi b/\a.length+b.length<=100000000) (λr=>qi r.1/\qi r.2.1/\r.1.length<=a.length/\r.2.1.length<=a.length):=⟨λh=>gD (iJ a b h.1 h.2.1 (Z) (Z)) (by
 have h1:=wq h.1
 split
 ·exact⟨wE,wE,xB _,xB _⟩
 ·exact⟨xk _,xk _,zQ (gS (qK _ _)) h1,zQ (gS (Nat.mod_le _ _)) h1⟩)⟩
instance (g:Bool) (n d:List Int):Sp (sa g n d) (qi n/\qi d/\n.length+d.length<=100000000) (λr=>rg r/\rl r<=max 1 (max n.length d.length)/\nm r/\r=XT g (nv n) (nv d)):=⟨λh=>gD (MN g n d h.1 h.2.1 (Z) (Z)) (by
 have:=zap g (nv n) (nv d) (max 1 (max n.length d.length)) (Z) (by have:=wq h.1; omega) (by have:=wq h.2.1; omega)
 exact⟨⟨this.1,this.2.1⟩,by unfold rl; have:=this.2.2; omega,z00 _ _ _,rfl⟩)⟩
instance (a:Lf.Rat):Sp (vN a) (rg a/\rl a<=50000000) (λr=>rg r/\rl r<=max 1 (rl a)/\nm r/\r=norm a):=⟨λh=>by unfold rg rl at h; unfold vN norm; refine z8 (wb) λr h=>h⟩
theorem gor{p:Prop} (h:p:=by
 intros
 repeat' (with_reducible first
  | refine T.zd ?_
  | refine T.zg (λ_ => ?_) (λ_ => ?_)
  | refine T.za ?_
  | refine T.zh ?_
  | refine T.vG ?_ ?_
  | refine T.qk ?_ ?_
  | refine T.vJ ?_ ?_
  | refine T.vt ?_ ?_
  | refine T.zc ?_ ?_
  | refine T.vY (λ_ _ => ?_) (λ_ _ => ?_)
  | refine T.z8 ?_ (λ_ _ => ?_)
  | refine T.vI ?_ (λ_ _ => ?_)
  | refine T.xe ?_
  | dsimp only)
 all_goals grind [xf,uM,dH,jf,Xj,jb,dG,vo,wE,kf,yO,dY,cB,List.length_set,List.take_length,rg,rl,tL]):p:=h
instance (a:Lf.Rat):Sp (cK a) (rg a/\rl a<=50000000) (λr=>r=false->rl (norm a)<=16):=⟨λh=>by unfold cK; exact gor⟩
instance (a b:Lf.Rat):Sp (pn a b) (rg a/\rg b/\rl a+rl b<=20000000) (λr=>rg r/\rl r<=rl a+rl b+2/\nm r):=⟨λh=>by unfold pn; exact gor⟩
instance (a b:Lf.Rat):Sp (pj a b) (rg a/\rg b/\rl a+rl b<=20000000) (λr=>rg r/\rl r<=rl a+rl b+3/\nm r):=⟨λh=>by unfold pj; exact gor⟩
instance (a:Lf.Rat):Sp (Qt a) (rg a/\rl a<=50000000) (λr=>rg r/\rl r<=max 1 (rl a)):=⟨λh=>by unfold Qt U5; exact gor⟩
instance (a b:Lf.Rat):Sp (Jn a b) (rg a/\rg b/\rl a+rl b<=10000000) (λr=>rg r/\rl r<=rl a+rl b+4/\nm r):=⟨λh=>by unfold Jn; exact gor⟩
instance (a:Lf.Rat):Sp (iW a) (rg a/\rl a<=50000000) (λ_=>True):=⟨λh=>by unfold iW; exact gor⟩
instance (a b:Lf.Rat):Sp (YE a b) (rg a/\rg b/\rl a+rl b<=10000000) (λ_=>True):=⟨λh=>by unfold YE; exact gor⟩
instance (a:Int):Sp (gm a) (-9223372036854775808<=a/\a<=9223372036854775807) (λr=>rg r/\rl r<=2):=⟨λh=>by unfold gm; exact gor⟩
instance (a b:Lf.Rat):Sp (tA a b) (rg a/\rg b/\rl a+rl b<=10000000) (λr=>rg r.1/\rl r.1<=rl a+rl b+4/\(r.2=true->nm r.1)):=⟨λh=>by unfold tA; exact gor⟩
end Go.AM
namespace Go.AM
open T PL Lf
theorem Nc(x:Int):wu8 x=x % 256:=IntKind.wrap_u8 x
theorem sN(a:q9)(h:wP a []=false):1<=a.length:=by
 cases a with
 | nil=>exact absurd h (xo)
 | cons=>simp
theorem XG(a b:q9):(cat a b).length=a.length+b.length:=List.length_append
theorem Ts(l h:Int)(a:q9):(fW l h a).length<=a.length:=by unfold fW; simp; omega
theorem z3s(a p:q9):(Eg a p).length<=a.length:=by unfold Eg; split<;>simp
theorem zey(n:Nat):∀ s:q9,(E3 s n).length=s.length*n:=by
 induction n with
 | zero=>simp[E3]
 | succ n ih=>intro s; rw[E3,List.length_append,ih,Nat.mul_succ]; omega
theorem O9(l h:Int)(a:q9)(h0:0<=l)(h1:l<=h)(X:h<=a.length):((fW l h a).length:Int)=h-l:=by unfold fW; simp; omega
theorem V7(x:Lf.Rat):(x.1,x.2.1,x.2.2.1,())=x:=rfl
theorem G9(e:Expr):Expr.mk e.kind ((Expr.num e).1,(Expr.num e).2.1,(Expr.num e).2.2.1,()) e.name e.kids=e:=by cases e; rfl
theorem JQ(s:q9)(i:Int):0<=uC s i/\uC s i<256:=by unfold uC; have:=(s.getD i.toNat 0).toNat_lt; omega
theorem lG{p:Prop} (h:p:=by
 intros
 repeat' (with_reducible first
  | refine T.zd ?_
  | refine T.zg (λ_ => ?_) (λ_ => ?_)
  | refine T.za ?_
  | refine T.zh ?_
  | refine T.vG ?_ ?_
  | refine T.qk ?_ ?_
  | refine T.vJ ?_ ?_
  | refine T.vt ?_ ?_
  | refine T.zc ?_ ?_
  | refine T.vY (λ_ _ => ?_) (λ_ _ => ?_)
  | refine T.z8 ?_ (λ_ _ => ?_)
  | refine T.vI ?_ (λ_ _ => ?_)
  | refine T.xe ?_
  | dsimp only)
 all_goals grind [xf,uM,dH,jf,Xj,jb,dG,vo,wE,kf,yO,dY,cB,List.length_set,List.take_length,rg,rl,tL,Nc,XG,Ts,z3s,zey,O9,JQ,wP,dZ,sN]):p:=h
theorem lps{σ ρ:Type}{r:σ->T (σ⊕ρ)}{Q:ρ->Prop}(hb:σ->Prop)(μ:σ->Nat){s:σ}(hs:hb s:=by grind [xf,uM,dH,jf,Xj,jb,dG,vo,wE,kf,yO,dY,cB,List.length_set,List.take_length,rg,rl,tL,Nc,XG,Ts,z3s,zey,O9,JQ,wP,dZ,sN])
  (h:∀ s,hb s->(r s).wp λz=>match z with | .inl s'=>hb s'/\μ s'<μ s | .inr y=>Q y:=by
 intros
 repeat' (with_reducible first
  | refine T.zd ?_
  | refine T.zg (λ_ => ?_) (λ_ => ?_)
  | refine T.za ?_
  | refine T.zh ?_
  | refine T.vG ?_ ?_
  | refine T.qk ?_ ?_
  | refine T.vJ ?_ ?_
  | refine T.vt ?_ ?_
  | refine T.zc ?_ ?_
  | refine T.vY (λ_ _ => ?_) (λ_ _ => ?_)
  | refine T.z8 ?_ (λ_ _ => ?_)
  | refine T.vI ?_ (λ_ _ => ?_)
  | refine T.xe ?_
  | dsimp only)
 all_goals grind [xf,uM,dH,jf,Xj,jb,dG,vo,wE,kf,yO,dY,cB,List.length_set,List.take_length,rg,rl,tL,Nc,XG,Ts,z3s,zey,O9,JQ,wP,dZ,sN]):(loop r s).wp Q:=T.vx hb μ hs h
instance (c:Int) (a:q9):Sp (b8 c a) (a.length<=1000000000) (λr=>r.length<=a.length):=⟨λh=>by
 unfold b8 b9
 exact lps (λs=>s.length<=a.length) (λs=>s.length)⟩
instance (c:Int) (a:q9):Sp (bN c a) (a.length<=1000000000) (λr=>r.length<=a.length):=⟨λh=>by
 unfold bN bO
 exact lps (λs=>s.length<=a.length) (λs=>s.length)⟩
instance (c:den (ng .bool 256)) (a:q9):Sp (jO c a) (a.length<=1000000000) (λr=>r.length<=a.length):=⟨λh=>by
 unfold jO uK vn
 exact lps (λs=>s.length<=a.length) (λs=>s.length)⟩
instance (c:den (ng .bool 256)) (a:q9):Sp (kB c a) (a.length<=1000000000) (λr=>r.length<=a.length):=⟨λh=>by
 unfold kB j5 vn
 exact lps (λs=>s.length<=a.length) (λs=>s.length)⟩
def z42(a:q9):Bool:=decide (a.length<=1000)&&a.all λx=>decide (x.toNat<128)
theorem z43:z42 [48,49,50,51,52,53,54,55,56,57]=true:=xo
instance (b a:q9):Sp (cz b a) (b.length<=1000000000/\z42 a=true) (λr=>r.length<=b.length):=⟨λh=>by
 unfold cz strings_trimRightByte strings_trimLeftByte strings_makeASCIISet jB jS
 simp only[z42,Bool.and_eq_true,decide_eq_true_eq,List.all_eq_true]at h
 exact lG⟩
instance (a:q9) (s:List Int×Int):Sp (Qi a (a.length:Int) s) (a.length<=100000/\s=([],0)) (λr=>qi r/\r.length<=2*a.length+1):=⟨λh=>by
 unfold Qi Qj
 exact lps (λ(l,i)=>qi l/\0<=i/\i<=a.length/\(l.length:Int)<=2*i+1) (λ(_,i)=>(a.length-i).toNat)⟩
instance (a:q9):Sp (mo a) (a.length<=1000000000) (λr=>qi r.1/\r.1.length<=801):=⟨λh=>by have:=z43; unfold mo; exact lG⟩
instance (n:Int) (s:List Int×Int):Sp (VF n s) (n<=100000/\qi s.1/\s.1.length<=2/\s.2=0) (λr=>qi r/\r.length<=2+2*n.toNat):=⟨λh=>by
 unfold VF VG
 exact lps (λ(l,i)=>qi l/\0<=i/\(i<=n\/i=0)/\(l.length:Int)<=2+2*i) (λ(_,i)=>(n-i).toNat)⟩
instance (n:Int):Sp (UB n) (n<=100000) (λr=>qi r/\r.length<=2+2*n.toNat):=⟨λh=>by unfold UB; exact lG⟩
instance (a:q9) (n:Int):Sp (sY a n) (0<=n/\n<=100000/\a.length<=1000000000) (λr=>r.length<=a.length+n.toNat+2):=⟨λh=>by unfold sY strings_Repeat; exact lG⟩
instance (a:Lf.Rat):Sp (Xk a) True (λr=>r.length<=1):=⟨λ_=>by unfold Xk; exact lG⟩
instance (a:Lf.Rat):Sp (gE a) (rg a/\rl a<=500000) (λr=>r.length<=40*rl a+50):=⟨λh=>by unfold gE; exact lG⟩
instance (a b:q9):Sp (strings_Cut a b) (a.length<=1000000000) (λr=>r.1.length+r.2.1.length<=a.length):=⟨λh=>by
 unfold strings_Cut Fc
 exact T.zc (Z) (T.zd (by split<;>simp<;>omega))⟩
instance (a b:q9):Sp (strings_CutPrefix a b) True (λr=>r.1.length<=a.length):=⟨λh=>by unfold strings_CutPrefix; exact lG⟩
instance (a:q9):Sp (pH a) True (λr=>rg r.1/\rl r.1<=1700):=⟨λh=>by unfold pH; exact lG⟩
instance (s:Int×Lf.Rat):Sp (ZQ s) (s.1=0/\rg s.2/\rl s.2<=5000) (λr=>match r with | .inl _=>True | .inr z=>z.1.length<=18*rl s.2+2280):=⟨λh=>by
 unfold ZQ ZR
 exact lps (λ(i,a)=>0<=i/\i<=61/\a=s.2) (λ(i,_)=>(61-i).toNat)⟩
instance (a:Lf.Rat):Sp (Zb a) (rg a/\rl a<=5000) (λr=>r.1.length<=18*rl a+2300):=⟨λh=>by unfold Zb; exact lG⟩
theorem z6C(a:Lf.Rat)(h:rg a)(h1:Wg a.2.1)(X:Wg a.2.2.1)(h3:a.2.2.1≠[])(h4:a.1=true->a.2.1≠[])(h5:zL (nv a.2.1) (nv a.2.2.1)=1):nm a:=by
 unfold nm norm XT
 obtain⟨b,n,d,u⟩:=a
 by_cases hn:nv n=0
 ·have:n=[]:=by rcases Decidable.em (n=[])with e | e; exact e; exact absurd hn (MB h.1 h1 e)
  subst this
  simp at h5 h4 ⊢
  have e:vf (nv d)=d:=H0 h.2 X
  rw[h5,Rl]at e
  simp[h4,<- e]
 ·rw[if_neg (by have:=MB h.2 X h3; simp[hn,this])]
  simp only[h5,Nat.div_one]
  rw[H0 h.1 h1,H0 h.2 X]
instance (a:List Int):Sp (Qh a) (a.length<=1000000000) (λr=>r=true->Wg a):=⟨λh=>by
 unfold Qh
 refine T.zc (λh1 => ?_) (T.zd λX x N => ?_)
 ·rw[qo (Z) (Z)]; grind [xf]
 ·obtain⟨l,rfl⟩:=List.getLast?_eq_some_iff.1 N
  rw[qo (Z) (Z),show zb (.int .u32)=(0:Int)from rfl,Ii]at X
  have:(l.length:Int)+1=0\/x≠0:=by simpa using X
  omega⟩
instance (a:Lf.Rat):Sp (tU a) (rg a/\rl a<=5000000) (λr=>r=true->nm a):=⟨λh=>by
 have:¬ Wg a.2.1\/¬ Wg a.2.2.1\/a.2.2.1.length=0\/(a.1=true/\a.2.1.length=0)\/zL (nv a.2.1) (nv a.2.2.1)≠1\/nm a:=by
  have:=z6C a h.1
  simp only[xD]; grind
 have e:∀ g,JS (nv (vf g)) (nv (vf (Int.toNat 1)))=0->g=1:=λg h=>by rw[vK,vK]at h; unfold JS at h; grind
 unfold tU
 exact lG⟩
end Go.AM
namespace Go.AM
open T PL Lf
def ixR{α:Type}(d0:α)(b:List α)(d:α->T Bool)(e:Int):Int->T (Int⊕(Unit⊕Int))
 | a=>.ite (decide (a<e)) (oI a b<|T.bind (d (nth b a d0)) λc=>.ite c (.ret (.inr (.inr a))) (.ret (.inl (qj (a+1))))) (.ret (.inr (.inl ())))
theorem wa{α:Type}{l:List α}{i:Int}{d:α}(h0:0<=i)(h:i<l.length):nth l i d∈l:=by
 unfold nth
 rw[zP,List.getElem?_eq_getElem (Z)]
 exact List.getElem_mem _
theorem Yz{α:Type}{l:List α}{x d:α}(h:x∈l):∃ i:Int,0<=i/\i<l.length/\nth l i d=x:=by
 obtain⟨k,hk,rfl⟩:=List.getElem_of_mem h
 exact⟨k,Z,Z,by unfold nth; simp[hk]⟩
theorem ziK{α:Type}(d0:α)(l:List α)(c:α->T Bool)(R:l.length<=1000000000000)(hc:∀ x∈l,(c x).wp λ_=>True) :
  (T.loop (ixR d0 l c l.length) 0).wp λr=>match r with | .inl _=>∀ x∈l,(c x).run=some false | .inr i=>0<=i/\i<l.length/\(c (nth l i d0)).run=some true:=by
 refine T.vx (λi:Int=>0<=i/\i<=l.length/\∀ j:Int,0<=j->j<i->(c (nth l j d0)).run=some false) (λi:Int=>(l.length-i).toNat) (wb) λi ⟨h0,h1,X⟩ => ?_
 refine T.zg (λh => ?_) λh => ?_
 ·have h:=uf h
  refine T.qk ⟨h0,h⟩ (T.xe ?_)
  obtain⟨b,I,_⟩:=T.lC.1 (hc _ (wa (d:=d0) h0 h))
  refine T.gD I (T.zg (λe=>T.zd ⟨h0,h,e▸I⟩) λe=>T.zd ?_)
  rw[qo (Z) (Z)]
  refine⟨⟨Z,Z,λj hj hji => ?_⟩,Z⟩
  by_cases e':j=i
  ·subst e'; exact e▸I
  ·exact X j hj (Z)
 ·refine T.zd λx N => ?_
  obtain⟨j,hj,NW,rfl⟩:=Yz (d:=d0) N
  have h:=yT h
  exact X j hj (Z)
def Ixp{α:Type}(l:List α)(c:α->T Bool)(d0:α)(r:Int):Prop:=(r = -1/\∀ x∈l,(c x).run=some false)\/(0<=r/\r<l.length/\(c (nth l r d0)).run=some true)
theorem zdL{α:Type}{d0:α}{l:List α}{c:α->T Bool}(h:l.length<=1000000000000/\∀ x∈l,(c x).wp λ_=>True) :
  (T.bind (T.loop (ixR d0 l c l.length) 0)<|xM (λ_=>T.ret (-1:Int)) λb=>T.ret b).wp (Ixp l c d0) :=
 T.xe (T.xv (ziK d0 l c h.1 h.2) λr hr=>by
  cases r with
  | inl _=>exact .inl ⟨rfl,hr⟩
  | inr i=>exact .inr hr)
def Bz{α:Type}(l:List α)(P:α->Bool->Prop)(d0:α)(r:Int):Prop:=(r = -1/\∀ x∈l,P x false)\/(0<=r/\r<l.length/\P (nth l r d0) true)
def Er{α:Type}(l:List α)(P:α->Bool->Prop)(r:Bool):Prop:=(r=false/\∀ x∈l,P x false)\/(r=true/\∃ x∈l,P x true)
theorem ixq{α:Type}{d0:α}{l:List α}{c:α->T Bool}{p:α->Prop}{P:α->Bool->Prop}[s:∀ x,Sp (c x) (p x) (P x)](h:l.length<=1000000000000/\∀ x∈l,p x) :
  (T.bind (T.loop (ixR d0 l c l.length) 0)<|xM (λ_=>T.ret (-1:Int)) λb=>T.ret b).wp (Bz l P d0) :=
 T.xv (zdL ⟨h.1,λx N=>T.xv ((s x).sp (h.2 x N)) λ_ _=>trivial⟩) λ_ hr=>hr.imp (λ⟨e,k⟩=>⟨e,λx N=>T.HF ((s x).sp (h.2 x N)) (k x N)⟩) λ⟨h1,X,k⟩=>⟨h1,X,T.HF ((s _).sp (h.2 _ (wa h1 X))) k⟩
theorem cnq{α:Type}{d0:α}{l:List α}{P:α->Bool->Prop}{t:T Int}(k:t.wp (Bz l P d0)):(T.bind t λa=>T.ret (decide ((0:Int)<=a))).wp (Er l P) :=
 T.xe (T.xv k λa ha=>ha.elim (λ⟨h,k⟩=>.inl ⟨decide_eq_false (Z),k⟩) λ⟨h1,X,k⟩=>.inr ⟨decide_eq_true h1,_,wa h1 X,k⟩)
instance (a:List Switch) (c:Switch->T Bool) (p:Switch->Prop) (P:Switch->Bool->Prop) [∀ x,Sp (c x) (p x) (P x)]:Sp (wh a c) (a.length<=1000000000000/\∀ x∈a,p x) (Bz a P (zb qw)):=⟨ixq⟩
instance (a:List Switch) (c:Switch->T Bool) (p:Switch->Prop) (P:Switch->Bool->Prop) [∀ x,Sp (c x) (p x) (P x)]:Sp (vO a c) (a.length<=1000000000000/\∀ x∈a,p x) (Er a P):=⟨λh=>cnq (Sp.sp h)⟩
instance (a:List Param) (c:Param->T Bool) (p:Param->Prop) (P:Param->Bool->Prop) [∀ x,Sp (c x) (p x) (P x)]:Sp (vQ a c) (a.length<=1000000000000/\∀ x∈a,p x) (Bz a P (zb ql)):=⟨ixq⟩
instance (a:List Param) (c:Param->T Bool) (p:Param->Prop) (P:Param->Bool->Prop) [∀ x,Sp (c x) (p x) (P x)]:Sp (vW a c) (a.length<=1000000000000/\∀ x∈a,p x) (Er a P):=⟨λh=>cnq (Sp.sp h)⟩
instance (a:List eY) (c:eY->T Bool) (p:eY->Prop) (P:eY->Bool->Prop) [∀ x,Sp (c x) (p x) (P x)]:Sp (j4 a c) (a.length<=1000000000000/\∀ x∈a,p x) (Bz a P (zb xy)):=⟨ixq⟩
instance (a:List eY) (c:eY->T Bool) (p:eY->Prop) (P:eY->Bool->Prop) [∀ x,Sp (c x) (p x) (P x)]:Sp (ym a c) (a.length<=1000000000000/\∀ x∈a,p x) (Er a P):=⟨λh=>cnq (Sp.sp h)⟩
instance (a:List eC) (c:eC->T Bool) (p:eC->Prop) (P:eC->Bool->Prop) [∀ x,Sp (c x) (p x) (P x)]:Sp (hZ a c) (a.length<=1000000000000/\∀ x∈a,p x) (Bz a P (zb xp)):=⟨ixq⟩
instance (a:List eC) (c:eC->T Bool) (p:eC->Prop) (P:eC->Bool->Prop) [∀ x,Sp (c x) (p x) (P x)]:Sp (yn a c) (a.length<=1000000000000/\∀ x∈a,p x) (Er a P):=⟨λh=>cnq (Sp.sp h)⟩
instance (a:Int):Sp (cG a) True (λ_=>True):=⟨λ_=>by unfold cG; exact lG⟩
instance (a:Int):Sp (cf a) True (λ_=>True):=⟨λ_=>by unfold cf ko; exact lG⟩
instance (a:q9) (s:Int):Sp (Q2 a (a.length:Int) s) (s=0/\a.length<=1000000000) (λ_=>True):=⟨λh=>by
 unfold Q2 Q3
 exact lps (λ(i:Int)=>0<=i/\i<=a.length) (λ(i:Int)=>(a.length-i).toNat)⟩
instance (a:q9):Sp (uX a) (a.length<=1000000000) (λr=>r=true->a.length<=24):=⟨λh=>by unfold uX; exact lG⟩
inductive EW(k:Nat):Expr->Prop
 | mk {kd:Int} {n:Lf.Rat} {s:q9} {l:List Expr}:rg n->rl n<=k->s.length<=k->l.length<=k->(∀ x∈l,EW k x)->EW k (.mk kd n s l)
inductive EO:Nat->Expr->Prop
 | num {n:Lf.Rat} {s:q9}:rg n->rl n<=16->EO 1 (.mk 1 n s [])
 | nam {n:Lf.Rat} {s:q9}:s.length<=24->EO 1 (.mk 2 n s [])
 | neg {n:Lf.Rat} {s:q9} {i:Nat} {a:Expr}:EO i a->EO (i+1) (.mk 7 n s [a])
 | bin {k:Int} {n:Lf.Rat} {s:q9} {i j:Nat} {a b:Expr}:3<=k->k<=6->EO i a->EO j b->EO (i+j+1) (.mk k n s [a,b])
instance (a:Lf.Rat):Sp (Q4 a) (rg a/\rl a<=2000000) (λr=>r=true->rl a<=16):=⟨λh=>by have:nm a↔norm a=a:=Iff.rfl; unfold Q4; exact lG⟩
instance (a:Lf.Rat):Sp (nu a) (rg a/\rl a<=2000000) (λ_=>True):=⟨λh=>by unfold nu; exact lG⟩
def arity(k:Int):Nat:=if k=1\/k=2 then 0 else if k=7 then 1 else 2
instance (a:Int):Sp (Wy a) True (λr=>0<=r->r=arity a/\1<=a/\a<=7):=⟨λ_=>by unfold Wy arity; exact lG⟩
instance (e:Expr):Sp (nt e) (EW 2000000 e) (λr=>r=true->e.kids.length=arity e.kind/\1<=e.kind/\e.kind<=7/\(e.kind=1->rl e.num<=16)/\(e.kind=2->e.name.length<=24)):=⟨λh=>by
 cases h with
 | mk h1 X h3 h4 h5 =>
  unfold nt
  simp only[Expr.kids,Expr.kind,Expr.num,Expr.name]
  exact lG⟩
end Go.AM
namespace Go.AM
open T PL Lf
inductive Vb:Nat->List Expr->Prop
 | nil:Vb 0 []
 | snoc {m n:Nat} {l:List Expr} {a:Expr}:Vb m l->EO n a->Vb (m+n) (l++[a])
theorem ef{α:Type}(l:List α)(i:Int)(d:α)(h0:0<=i)(h:i<l.length):l.take (i+1).toNat=l.take i.toNat++[nth l i d]:=by
 have:(i+1).toNat=i.toNat+1:=Z
 rw[this,zY (Z)]
 unfold nth
 simp[zP,show i.toNat<l.length by omega]
theorem Vb.inv{n:Nat}{l:List Expr}(h:Vb n l):∀ (L:List Expr) (a:Expr),l=L++[a]->∃ i j,n=i+j/\Vb i L/\EO j a:=by
 cases h with
 | nil=>intro L a e; simp at e
 | @snoc m n l a h1 X =>
  intro L b e
  obtain⟨h3,h4⟩:=List.append_inj' e rfl
  subst h3
  cases h4
  exact⟨m,n,rfl,h1,X⟩
theorem Vb.n0{n:Nat}(h:Vb n []):n=0:=by
 generalize e:([]:List Expr)=l at h
 cases h with
 | nil=>rfl
 | snoc h1 X=>simp at e
theorem EO.of{k:Int}{n:Lf.Rat}{s:q9}{l:List Expr}{m:Nat}(h:Vb m l)(R:l.length=arity k)(h1:1<=k)(X:k<=7)(hn:rg n)(h3:k=1->rl n<=16)(h4:k=2->s.length<=24):EO (m+1) (.mk k n s l):=by
 unfold arity at R
 by_cases e1:k=1
 ·subst e1
  obtain rfl:l=[]:=by simpa using R
  rw[h.n0]; exact .num hn (h3 rfl)
 by_cases e2:k=2
 ·subst e2
  obtain rfl:l=[]:=by simpa using R
  rw[h.n0]; exact .nam (h4 rfl)
 by_cases e7:k=7
 ·subst e7
  obtain⟨a,rfl⟩:=List.length_eq_one_iff.1 (by simpa using R)
  obtain⟨i,j,rfl,g1,g2⟩:=h.inv [] a rfl
  rw[g1.n0]
  simpa using EO.neg g2
 ·rw[if_neg (Z),if_neg e7]at R
  match l,R with
  | [a,b],_ =>
  obtain⟨i,j,rfl,g1,g2⟩:=h.inv [a] b rfl
  obtain⟨i',j',rfl,g3,g4⟩:=g1.inv [] a rfl
  rw[g3.n0]
  simpa using EO.bin (Z) (Z) g4 g2
instance (l:List Expr) (g:Expr->Int->Int->T (Bool×Int)) (s:(Int×Unit)×Int×Int):Sp (wA g l (l.length:Int) s)
  (l.length<=2000000/\s.2.1=0/\0<=s.1.1/\s.1.1<32/\0<=s.2.2/\s.2.2<=256/\∀ e∈l,∀ d f:Int,0<=d/\d<=32/\0<=f/\f<=256->(g e d f).wp λr => -1<=r.2/\r.2<f/\(r.1=true->0<=r.2/\EO (f-r.2).toNat e))
  (λr=>match r with | .inl d=>0<=d/\d<=s.2.2/\Vb (s.2.2-d).toNat l | .inr z=>0<=z.1 /\ -1<=z.2/\z.2<=s.2.2):=⟨λh=>by
 unfold wA
 refine T.vx (λ(c,a,d)=>c.1=s.1.1/\0<=a/\a<=l.length/\0<=d/\d<=s.2.2/\Vb (s.2.2-d).toNat (l.take a.toNat)) (λ(_,a,_)=>(l.length-a).toNat) (by
  obtain⟨c,a,d⟩:=s
  dsimp only at *
  have:(d-d).toNat=0:=Z
  rw[h.2.1,this]
  exact⟨rfl,Z,Z,Z,Z,.nil⟩) λ⟨c,a,d⟩ ⟨h1,X,h3,h4,h5,h6⟩ => ?_
 unfold wX mQ
 dsimp only at *
 refine T.zg (λe => ?_) λe => ?_
 ·have e:=uf e
  refine T.qk ⟨X,e⟩ (T.xe (T.xe (T.xv (h.2.2.2.2.2.2 _ (wa X e) _ _ (by rw[qo (Z) (Z)]; omega)) λr hr => ?_)))
  refine T.zd (T.zg (λe1=>T.zd ⟨X,hr.1,Z⟩) λe1=>T.zd ?_)
  obtain⟨g1,g2⟩:=hr.2.2 (by simpa using e1)
  rw[qo (Z) (Z)]
  dsimp only
  refine⟨⟨h1,Z,Z,g1,Z,?_⟩,Z⟩
  rw[ef l a _ X e,show(s.2.2-r.2).toNat=(s.2.2-d).toNat+(d-r.2).toNat by omega]
  exact .snoc h6 g2
 ·have e:=yT e
  refine T.zd ⟨h4,h5,?_⟩
  rwa [zI (Z)]at h6⟩
instance (e:Expr) (d l:Int):Sp (Q5 e d l) (EW 2000000 e/\0<=d/\d<=32/\0<=l/\l<=256) (λr => -1<=r.2/\r.2<l/\(r.1=true->0<=r.2/\EO (l-r.2).toNat e)):=⟨λh=>by
 unfold Q5
 refine T.sM (x:=(e,d,l)) (σ:=Expr×Int×Int) (ρ:=Bool×Int) (λ(e,d,l)=>EW 2000000 e/\0<=d/\d<=32/\0<=l/\l<=256) (λ(e,_,_)=>zR e) (λ(e,_,l) r => -1<=r.2/\r.2<l/\(r.1=true->0<=r.2/\EO (l-r.2).toNat e)) ?_ ?_ h
 ·intro g g' hg x
  unfold iF wW vq wA wX mQ
  exact mono
 ·intro⟨e,d,l⟩ ⟨he,h1,X,h3,h4⟩ g hg
  dsimp only at *
  have hn:=he
  cases he with
  | @mk kd n s L g1 g2 g3 g4 g5 =>
  have hk:∀ e∈L,∀ d f:Int,0<=d/\d<=32/\0<=f/\f<=256->(g (e,d,f)).wp λr => -1<=r.2/\r.2<f/\(r.1=true->0<=r.2/\EO (f-r.2).toNat e):=λe he d f h=>hg (e,d,f) ⟨g5 e he,h⟩ (by have:=xG he; simp; omega)
  have hs:∀ (f:Int),Sp (wA (λy0 y1 y2=>g (y0,y1,y2)) L (L.length:Int) ((d,()),0,f)) (d<32/\0<=f/\f<=256) (λr=>match r with | .inl z=>0<=z/\z<=f/\Vb (f-z).toNat L | .inr z=>0<=z.1 /\ -1<=z.2/\z.2<=f):=λf=>⟨λh=>Sp.sp ⟨g4,rfl,h1,h.1,h.2.1,h.2.2,hk⟩⟩
  have ho:∀ z:Int,Vb (l-1-z).toNat L->L.length=arity kd->1<=kd->kd<=7->(kd=1->rl n<=16)->(kd=2->s.length<=24)->0<=z->z<=l-1->EO (l-z).toNat (.mk kd n s L):=λz h a1 a2 a3 a4 a5 a6 a7=>by
   have:=EO.of h a1 a2 a3 g1 a4 a5
   rwa [show(l-1-z).toNat+1=(l-z).toNat by omega]at this
  unfold iF wW vq
  simp only[Expr.kids]
  rw[qo (Z) (Z)]
  have hi:Sp (nt (.mk kd n s L)) True (λr=>r=true->L.length=arity kd/\1<=kd/\kd<=7/\(kd=1->rl n<=16)/\(kd=2->s.length<=24)):=⟨λ_=>Sp.sp hn⟩
  clear hg hk g5 hn h g1 g2 g3 g4
  exact lG⟩
def EK(e:Expr):Prop:=∃ n,n<=256/\EO n e
instance (e:Expr):Sp (iE e) (EW 2000000 e) (λr=>r=true->EK e):=⟨λh=>by unfold iE EK; exact lG⟩
end Go.AM
namespace Go.AM
open T PL Lf
instance (e:Expr):Sp (mf e) True (λr=>1<=r/\r<=4):=⟨λ_=>by unfold mf; exact lG⟩
instance (e:Expr):Sp (Q6 e) (EK e) (λr=>r.length<=665600):=⟨λh=>by
 unfold Q6
 refine T.xv (P:=λr=>∀ n,EO n e->r.length<=2600*n) ?_ λr hr=>by obtain⟨n,h1,X⟩:=h; have:=hr n X; omega
 refine T.sM (x:=e) (σ:=Expr) (ρ:=q9) (λe=>∃ n,n<=256/\EO n e) (λe=>zR e) (λe r=>∀ n,EO n e->r.length<=2600*n) ?_ ?_ h
 ·intro g g' hg x
  unfold gR dB
  exact mono
 ·intro e ⟨n,hn,he⟩ g hg
  have hs:∀ y,Sp (g y) ((∃ n,n<=256/\EO n y)/\zR y<zR e) (λr=>∀ n,EO n y->r.length<=2600*n):=λy=>⟨λh=>hg y h.1 h.2⟩
  have hp:∀ y f,Sp (dB (λy0=>g y0) y f) ((∃ n,n<=256/\EO n y)/\zR y<zR e) (λr=>∀ n,EO n y->r.length<=2600*n+2):=λy f=>⟨λh=>by
   unfold dB
   clear hg
   exact lG⟩
  clear hg h hs
  cases he with
  | num h1 X =>
   unfold gR
   simp only[Expr.kids,Expr.kind,Expr.num,Expr.name]
   have:∀ {n m s},EO n (.mk 1 m s [])->1<=n:=λh=>by cases h<;>omega
   refine T.xe (T.wU rfl ?_)
   exact lG
  | nam h1 =>
   unfold gR
   simp only[Expr.kids,Expr.kind,Expr.num,Expr.name]
   have:∀ {n m s},EO n (.mk 2 m s [])->1<=n:=λh=>by cases h<;>omega
   refine T.xe (T.xl rfl (T.wU rfl ?_))
   exact lG
  | @neg m s i a h1 =>
   unfold gR
   simp only[Expr.kids,Expr.kind,Expr.num,Expr.name]
   have X:∀ {n},EO n (.mk 7 m s [a])->∃ j,n=j+1/\EO j a:=λh=>by cases h; exact⟨_,rfl,by assumption⟩
   refine T.xe (T.xl rfl (T.xl rfl (T.wU rfl (T.qk ⟨Z,qp⟩ (T.z8 ⟨⟨i,Z,h1⟩,by simp[nth]; omega⟩ λr hr => ?_)))))
   refine T.vt (by have:=hr i h1; simp; omega) (T.zd (T.zd λn hn => ?_))
   obtain⟨j,rfl,hj⟩:=X hn
   have:=hr j hj
   rw[XG]; simp<;>omega
  | @bin k m s i j a b h1 X h3 h4 =>
   unfold gR
   simp only[Expr.kids,Expr.kind,Expr.num,Expr.name]
   have h5:∀ {n},EO n (.mk k m s [a,b])->∃ i j,n=i+j+1/\EO i a/\EO j b:=λh=>by cases h; exact⟨_,_,rfl,by assumption,by assumption⟩
   refine T.xe (T.xl (wb) (T.xl (wb) (T.xl (wb) (T.xv (P:=λz=>∃ c:q9,z=.inl c/\c.length<=3) (by clear hp; exact lG) ?_))))
   rintro z ⟨c,rfl,hc⟩
   refine T.qk ⟨Z,by simp<;>omega⟩ (T.z8 trivial λy hy=>T.z8 ⟨⟨i,Z,h3⟩,by simp[nth]; omega⟩ λr hr=>T.vt (by have:=hr i h3; omega) (T.qk ⟨Z,qp⟩ (T.z8 trivial λy hy=>T.z8 ⟨⟨j,Z,h4⟩,by simp[nth]; omega⟩ λr' Ez=>T.vt (by have:=hr i h3; have:=Ez j h4; rw[XG]; omega) (T.zd λn hn => ?_))))
   obtain⟨i',j',rfl,hi,hj⟩:=h5 hn
   have:=hr i' hi
   have:=Ez j' hj
   rw[XG,XG]; omega⟩
instance (e:Expr):Sp (rF e) (EW 2000000 e) (λr=>r.length<=665600):=⟨λh=>by unfold rF; exact lG⟩
end Go.AM
namespace Go.AM.Lf
open T PL
abbrev KK:Nat:=2000000
def FW(k:Nat)(f:Form):Prop :=
 (f.1.length<=k/\∀ x∈f.1,x.1.length<=KK)/\(f.2.1.length<=k/\∀ x∈f.2.1,x.1.length<=KK/\rg x.2.1/\rl x.2.1<=KK)/\(f.2.2.1.length<=k/\∀ x∈f.2.2.1,x.1.length<=KK/\x.2.1.length<=KK) /\
 (f.2.2.2.1.length<=k/\∀ x∈f.2.2.2.1,x.1.length<=KK)/\(f.2.2.2.2.1.length<=k/\∀ x∈f.2.2.2.2.1,x.1.length<=KK/\x.2.2.1.length<=KK/\EW KK x.2.2.2.1/\EW KK x.2.2.2.2.1) /\
 (f.2.2.2.2.2.1.length<=k/\∀ x∈f.2.2.2.2.2.1,x.1.length<=KK/\EW KK x.2.2.2.1/\EW KK x.2.2.2.2.1)
def FO(f:Form):Prop :=
 (∀ x∈f.1,x.1.length<=24)/\(∀ x∈f.2.1,x.1.length<=24/\rl x.2.1<=16)/\(∀ x∈f.2.2.1,x.1.length<=24/\x.2.1.length<=24) /\
 (∀ x∈f.2.2.2.1,x.1.length<=24/\0<=x.2.1/\x.2.1<f.2.2.1.length/\0<=x.2.2.2.1/\x.2.2.2.1<=9)/\(∀ x∈f.2.2.2.2.1,x.1.length<=24/\0<=x.2.1/\x.2.1<4/\x.2.2.1.length<=24/\EK x.2.2.2.1/\EK x.2.2.2.2.1) /\
 (∀ x∈f.2.2.2.2.2.1,x.1.length<=24/\0<=x.2.2.1/\x.2.2.1<3/\EK x.2.2.2.1/\EK x.2.2.2.2.1)
theorem eX{σ ρ α:Type}(l:List α)(d:α)(ix:σ->Int)(A P:α->Prop)(hd:σ->Prop)(hA:∀ x∈l,A x){r:σ->T (σ⊕ρ)}{Q:ρ->Prop}{s:σ}(hs:ix s=0/\hd s)
  (step:∀ s x,hd s->A x->nth l (ix s) d=x->0<=ix s->ix s<l.length->(r s).wp λz=>match z with | .inl s'=>ix s'=ix s+1/\hd s'/\P x | .inr y=>Q y)
  (done:∀ s,hd s->ix s=l.length->(∀ x∈l,P x)->(r s).wp λz=>match z with | .inl _=>False | .inr y=>Q y):(T.loop r s).wp Q:=by
 refine T.vx (λs=>0<=ix s/\ix s<=l.length/\hd s/\∀ j:Int,0<=j->j<ix s->P (nth l j d)) (λs=>(l.length-ix s).toNat) ⟨Z,Z,hs.2,λj h0 h1=>Z⟩ λs ⟨h0,h1,X,h3⟩ => ?_
 by_cases h:ix s<l.length
 ·refine T.xv (step s _ X (hA _ (wa h0 h)) rfl h0 h) λz hz => ?_
  cases z with
  | inl s' =>
   obtain⟨e,hj,hp⟩:=hz
   refine⟨⟨Z,Z,hj,λj k0 k1 => ?_⟩,Z⟩
   by_cases e':j=ix s
   ·subst e'; exact hp
   ·exact h3 j k0 (Z)
  | inr y=>exact hz
 ·refine T.xv (done s X (Z) λx N => ?_) λz hz => ?_
  ·obtain⟨j,k0,k1,rfl⟩:=Yz (d:=d) N
   exact h3 j k0 (Z)
  ·cases z with
   | inl s'=>exact hz.elim
   | inr y=>exact hz
theorem each{σ ρ α:Type}(l:List α)(d:α)(ix:σ->Int)(A P:α->Prop)(hd:σ->Prop)(hA:∀ x∈l,A x){r:σ->T (σ⊕ρ)}{Q:ρ->Prop}{s:σ}(hs:ix s=0/\hd s:=by grind)
  (step:∀ s x,hd s->A x->nth l (ix s) d=x->0<=ix s->ix s<l.length->(r s).wp λz=>match z with | .inl s'=>ix s'=ix s+1/\hd s'/\P x | .inr y=>Q y:=by
 intros
 repeat' (with_reducible first
  | refine T.zd ?_
  | refine T.zg (λ_ => ?_) (λ_ => ?_)
  | refine T.za ?_
  | refine T.zh ?_
  | refine T.vG ?_ ?_
  | refine T.qk ?_ ?_
  | refine T.vJ ?_ ?_
  | refine T.vt ?_ ?_
  | refine T.zc ?_ ?_
  | refine T.vY (λ_ _ => ?_) (λ_ _ => ?_)
  | refine T.z8 ?_ (λ_ _ => ?_)
  | refine T.vI ?_ (λ_ _ => ?_)
  | refine T.xe ?_
  | dsimp only)
 all_goals grind [xf,uM,dH,jf,vV,jb,Er,Bz,G9,V7,XG])
  (done:∀ s,hd s->ix s=l.length->(∀ x∈l,P x)->(r s).wp λz=>match z with | .inl _=>False | .inr y=>Q y:=by
 intros
 repeat' (with_reducible first
  | refine T.zd ?_
  | refine T.zg (λ_ => ?_) (λ_ => ?_)
  | refine T.za ?_
  | refine T.zh ?_
  | refine T.vG ?_ ?_
  | refine T.qk ?_ ?_
  | refine T.vJ ?_ ?_
  | refine T.vt ?_ ?_
  | refine T.zc ?_ ?_
  | refine T.vY (λ_ _ => ?_) (λ_ _ => ?_)
  | refine T.z8 ?_ (λ_ _ => ?_)
  | refine T.vI ?_ (λ_ _ => ?_)
  | refine T.xe ?_
  | dsimp only)
 all_goals grind):(T.loop r s).wp Q:=eX l d ix A P hd hA hs step done
theorem goq{p:Prop} (h:p:=by
 intros
 repeat' (with_reducible first
  | refine T.zd ?_
  | refine T.zg (λ_ => ?_) (λ_ => ?_)
  | refine T.za ?_
  | refine T.zh ?_
  | refine T.vG ?_ ?_
  | refine T.qk ?_ ?_
  | refine T.vJ ?_ ?_
  | refine T.vt ?_ ?_
  | refine T.zc ?_ ?_
  | refine T.vY (λ_ _ => ?_) (λ_ _ => ?_)
  | refine T.z8 ?_ (λ_ _ => ?_)
  | refine T.vI ?_ (λ_ _ => ?_)
  | refine T.xe ?_
  | dsimp only)
 all_goals grind [xf,uM,dH,jf,jb,Er,Bz,G9]):p:=h
instance (x:Switch):Sp (yU x) (x.1.length<=KK) (λr=>r=false->x.1.length<=24):=⟨λh=>by unfold yU; exact lG⟩
instance (x:Param):Sp (yV x) (x.1.length<=KK/\rg x.2.1/\rl x.2.1<=KK) (λr=>r=false->x.1.length<=24/\rl x.2.1<=16):=⟨λh=>by have:nm x.2.1↔norm x.2.1=x.2.1:=Iff.rfl; unfold yV; exact lG⟩
instance (x:q9):Sp (lr x) (x.length<=KK) (λr=>r=true->x.length<=24):=⟨λh=>by unfold lr; exact lG⟩
instance (x:eY):Sp (yW x) (x.1.length<=KK/\x.2.1.length<=KK) (λr=>r=false->x.1.length<=24/\x.2.1.length<=24):=⟨λh=>by unfold yW; exact lG⟩
instance:Sp y9 True (λr=>r.length=4/\∀ s∈r,s.length<=8):=⟨λ_=>by unfold y9; exact T.zd ⟨rfl,xo⟩⟩
instance:Sp bJ True (λr=>r.length=3/\∀ s∈r,s.length<=2):=⟨λ_=>by unfold bJ; exact T.zd ⟨rfl,xo⟩⟩
instance (x:eC):Sp (y8 x) (x.1.length<=KK/\x.2.2.1.length<=KK/\EW KK x.2.2.2.1/\EW KK x.2.2.2.2.1) (λr=>r=false->x.1.length<=24/\0<=x.2.1/\x.2.1<4/\x.2.2.1.length<=24/\EK x.2.2.2.1/\EK x.2.2.2.2.1):=⟨λh=>by unfold y8; exact goq⟩
instance (f:Form):Sp (tH f) (FW KK f) (λr=>r=true->(∀ x∈f.1,x.1.length<=24)/\(∀ x∈f.2.1,x.1.length<=24/\rl x.2.1<=16)/\(∀ x∈f.2.2.1,x.1.length<=24/\x.2.1.length<=24)):=⟨λh=>by unfold tH; unfold FW at h; exact goq⟩
instance (a b c:Int):Sp (lq a b c) True (λr=>r=true->0<=a/\a<c):=⟨λ_=>by unfold lq; exact lG⟩
instance (f:Form) (s:Int×Int):Sp (oo f f.2.2.2.1 (f.2.2.2.1.length:Int) s) (s.2=0/\f.2.2.2.1.length<=KK/\∀ x∈f.2.2.2.1,x.1.length<=KK)
  (λr=>match r with | .inl _=>∀ x∈f.2.2.2.1,x.1.length<=24/\0<=x.2.1/\x.2.1<f.2.2.1.length/\0<=x.2.2.2.1/\x.2.2.2.1<=9 | .inr b=>b=false):=⟨λh=>by
 unfold oo oq
 exact each f.2.2.2.1 (zb qy) (λ(_,i)=>i) (λx=>x.1.length<=KK) (λx=>x.1.length<=24/\0<=x.2.1/\x.2.1<f.2.2.1.length/\0<=x.2.2.2.1/\x.2.2.2.1<=9) (λ(_,i)=>i<=KK) h.2.2⟩
instance (f:Form) (s:Int×Int):Sp (oj f f.2.2.2.2.2.1 (f.2.2.2.2.2.1.length:Int) s) (s.2=0/\f.2.2.2.2.2.1.length<=KK/\∀ x∈f.2.2.2.2.2.1,x.1.length<=KK/\EW KK x.2.2.2.1/\EW KK x.2.2.2.2.1)
  (λr=>match r with | .inl _=>∀ x∈f.2.2.2.2.2.1,x.1.length<=24/\0<=x.2.2.1/\x.2.2.1<3/\EK x.2.2.2.1/\EK x.2.2.2.2.1 | .inr b=>b=false):=⟨λh=>by
 unfold oj om
 exact each f.2.2.2.2.2.1 (zb xm) (λ(_,i)=>i) (λx=>x.1.length<=KK/\EW KK x.2.2.2.1/\EW KK x.2.2.2.2.1) (λx=>x.1.length<=24/\0<=x.2.2.1/\x.2.2.1<3/\EK x.2.2.2.1/\EK x.2.2.2.2.1) (λ(_,i)=>i<=KK) h.2.2⟩
open T PL
instance (f:Form):Sp (pz f) (FW 8200 f) (λr=>r=true->∀ x∈f.2.2.2.1,x.1.length<=24/\0<=x.2.1/\x.2.1<f.2.2.1.length/\0<=x.2.2.2.1/\x.2.2.2.1<=9):=⟨λh=>by unfold FW at h; unfold pz; exact goq⟩
instance (f:Form):Sp (pw f) (FW 8200 f) (λr=>r=true->(∀ x∈f.2.2.2.2.1,x.1.length<=24/\0<=x.2.1/\x.2.1<4/\x.2.2.1.length<=24/\EK x.2.2.2.1/\EK x.2.2.2.2.1) /\
 (∀ x∈f.2.2.2.2.2.1,x.1.length<=24/\0<=x.2.2.1/\x.2.2.1<3/\EK x.2.2.2.1/\EK x.2.2.2.2.1)):=⟨λh=>by unfold FW at h; unfold pw; exact goq⟩
def bt(l:List Int):Prop:=∀ n∈l,(0:Int)<=n/\n<256
theorem CZ{l:List Int}(h:bt l)(s:q9):bt (l++bytesOf s):=λn hn=>by
 rcases List.mem_append.1 hn with k | k
 ·exact h n k
 ·unfold bytesOf at k
  obtain⟨b,_,rfl⟩:=List.mem_map.1 k
  have:=b.toNat_lt
  omega
theorem Zp(s:q9):(bytesOf s).length=s.length:=by unfold bytesOf; simp
instance (b:q9) (c:List Int):Sp (xx b () c) (c.length+b.length<=140737488355328) (λr=>r.2.2=c++bytesOf b):=⟨λh=>by
 have:=Zp b
 unfold xx tP vV
 exact goq⟩
def onS(b:Bool):q9:=bif b then[32,111,110,10]else[32,111,102,102,10]
theorem goa{p:Prop} (h:p:=by
 intros
 repeat' (with_reducible first
  | refine T.zd ?_
  | refine T.zg (λ_ => ?_) (λ_ => ?_)
  | refine T.za ?_
  | refine T.zh ?_
  | refine T.vG ?_ ?_
  | refine T.qk ?_ ?_
  | refine T.vJ ?_ ?_
  | refine T.vt ?_ ?_
  | refine T.zc ?_ ?_
  | refine T.vY (λ_ _ => ?_) (λ_ _ => ?_)
  | refine T.z8 ?_ (λ_ _ => ?_)
  | refine T.vI ?_ (λ_ _ => ?_)
  | refine T.xe ?_
  | dsimp only)
 all_goals try simp only[XG,List.length_cons,List.length_nil,Nat.reduceAdd,Nat.zero_add]
 all_goals grind [xf,uM,dH,jf,vV,jb,XG,CZ,Zp,V7,G9]):p:=h
theorem BK{σ ρ α:Type}(l:List α)(d:α)(ix:σ->Int)(A P:α->Prop)(hd:σ->Prop)(hA:∀ x∈l,A x){r:σ->T (σ⊕ρ)}{Q:ρ->Prop}{s:σ}(hs:ix s=0/\hd s:=by grind)
  (step:∀ s x,hd s->A x->nth l (ix s) d=x->0<=ix s->ix s<l.length->(r s).wp λz=>match z with | .inl s'=>ix s'=ix s+1/\hd s'/\P x | .inr y=>Q y:=by
 intros
 repeat' (with_reducible first
  | refine T.zd ?_
  | refine T.zg (λ_ => ?_) (λ_ => ?_)
  | refine T.za ?_
  | refine T.zh ?_
  | refine T.vG ?_ ?_
  | refine T.qk ?_ ?_
  | refine T.vJ ?_ ?_
  | refine T.vt ?_ ?_
  | refine T.zc ?_ ?_
  | refine T.vY (λ_ _ => ?_) (λ_ _ => ?_)
  | refine T.z8 ?_ (λ_ _ => ?_)
  | refine T.vI ?_ (λ_ _ => ?_)
  | refine T.xe ?_
  | dsimp only)
 all_goals try simp only[XG,List.length_cons,List.length_nil,Nat.reduceAdd,Nat.zero_add]
 all_goals grind [xf,uM,dH,jf,vV,jb,XG,CZ,Zp,V7,G9])
  (done:∀ s,hd s->ix s=l.length->(∀ x∈l,P x)->(r s).wp λz=>match z with | .inl _=>False | .inr y=>Q y:=by
 intros
 repeat' (with_reducible first
  | refine T.zd ?_
  | refine T.zg (λ_ => ?_) (λ_ => ?_)
  | refine T.za ?_
  | refine T.zh ?_
  | refine T.vG ?_ ?_
  | refine T.qk ?_ ?_
  | refine T.vJ ?_ ?_
  | refine T.vt ?_ ?_
  | refine T.zc ?_ ?_
  | refine T.vY (λ_ _ => ?_) (λ_ _ => ?_)
  | refine T.z8 ?_ (λ_ _ => ?_)
  | refine T.vI ?_ (λ_ _ => ?_)
  | refine T.xe ?_
  | dsimp only)
 all_goals try simp only[XG,List.length_cons,List.length_nil,Nat.reduceAdd,Nat.zero_add]
 all_goals grind [xf,uM,dH,jf,vV,jb,XG,CZ,Zp,V7,G9]):(T.loop r s).wp Q:=eX l d ix A P hd hA hs step done
instance (a:q9):Sp (sD a) (a.length<=1000000) (λr=>r.length<=a.length+6):=⟨λh=>by unfold sD; exact goa⟩
theorem z2m(n:Int)(h0:0<=n)(h:n<1000000000000000000):(Gs n).length<=18:=by
 have key:∀ (k u:Nat),u<10 ^ (k+1)->(Fe u).length<=k+1:=by
  intro k
  induction k with
  | zero=>intro u hu; rw[Fe,dif_pos (Z)]; simp
  | succ k ih =>
   intro u hu
   rw[Fe]
   split
   ·simp
   ·have:=ih (u / 10) (by rw[zF]at hu; omega)
    simp; omega
 unfold Gs
 rw[if_neg (Z)]
 exact key 17 _ (Z)
instance (a:Int):Sp (strconv_Itoa a) (0<=a/\a<1000000000000000000) (λr=>r.length<=18):=⟨λh=>by unfold strconv_Itoa; exact T.zc (Z) (T.zd (z2m _ h.1 h.2))⟩
instance (x:Field):Sp (tG x) (x.1.length<=24/\0<=x.2.2.2.1/\x.2.2.2.1<=9) (λr=>r.length<=80):=⟨λh=>by
 obtain⟨n,p,m,s,u⟩:=x
 unfold tG
 cases m<;>dsimp only[cond_true,cond_false]<;>exact goa⟩
instance (a b:Expr) (s:q9):Sp (nP a s b) (EW KK a/\EW KK b/\s.length<=2) (λr=>r.length<=1331300):=⟨λh=>by unfold nP; exact goa⟩
instance (i:Int) (f:Form) (s:Int×Unit×List Int):Sp (ot i f f.2.2.2.1 (f.2.2.2.1.length:Int) s) (s.1=0/\f.2.2.2.1.length<=8200/\(∀ x∈f.2.2.2.1,x.1.length<=24/\0<=x.2.1/\x.2.1<f.2.2.1.length/\0<=x.2.2.2.1/\x.2.2.2.1<=9)/\bt s.2.2/\s.2.2.length<=100000000000000)
  (λr=>bt r.2/\r.2.length<=s.2.2.length+80*8200):=⟨λh=>by
 unfold ot ow
 exact BK f.2.2.2.1 (zb qy) (λ(i,_,_)=>i) _ (λ_=>True) (λ(i,_,c)=>0<=i/\i<=8200/\bt c/\(c.length:Int)<=s.2.2.length+80*i) h.2.2.1⟩
instance (i:Int) (l:List Check) (s:Int×Unit×List Int):Sp (ov i l (l.length:Int) s) (s.1=0/\l.length<=8200/\(∀ x∈l,x.1.length<=24/\0<=x.2.2.1/\x.2.2.1<3/\EW KK x.2.2.2.1/\EW KK x.2.2.2.2.1)/\bt s.2.2/\s.2.2.length<=100000000000000)
  (λr=>bt r.2/\r.2.length<=s.2.2.length+1331400*8200):=⟨λh=>by
 have hn:∀ (l:List q9) (i:Int),(l.length=3/\∀ s∈l,s.length<=2)->0<=i->i<3->(nth l i (zb .str)).length<=2:=λl i h h0 h1=>h.2 _ (wa h0 (Z))
 unfold ov ox
 exact BK l (zb xm) (λ(i,_,_)=>i) _ (λ_=>True) (λ(i,_,c)=>0<=i/\i<=8200/\bt c/\(c.length:Int)<=s.2.2.length+1331400*i) h.2.2.1⟩
def FV(f:Form):Prop:=FW 8200 f/\FO f
instance (f:Form) (i:Int) (c:List Int):Sp (pA f i () c) (FV f/\0<=i/\i<f.2.2.1.length/\bt c/\c.length<=91000000000000) (λr=>bt r.2/\r.2.length<=c.length+10920000000):=⟨λh=>by
 have h1:=h.1.2.2.2.1 _ (wa (d:=zb xy) h.2.1 h.2.2.1)
 obtain⟨⟨hw,ho⟩,X⟩:=h
 have h3:=hw.2.2.2.1.1
 have h4:=ho.2.2.2.1
 have h5:=hw.2.2.2.2.2.1
 have h6:=λ(x:Check) N=>(⟨(ho.2.2.2.2.2 x N).1,(ho.2.2.2.2.2 x N).2.1,(ho.2.2.2.2.2 x N).2.2.1,(hw.2.2.2.2.2.2 x N).2⟩:x.1.length<=24/\0<=x.2.2.1/\x.2.2.1<3/\EW KK x.2.2.2.1/\EW KK x.2.2.2.2.1)
 clear hw ho
 unfold pA
 exact goa⟩
instance (f:Form) (s:Int×Unit×List Int):Sp (sr f f.1 (f.1.length:Int) s) (s.1=0/\f.1.length<=8200/\(∀ x∈f.1,x.1.length<=24)/\bt s.2.2/\s.2.2.length<=100) (λr=>bt r.2/\r.2.length<=1000000):=⟨λh=>by
 unfold sr sy
 simp only[show ∀ b:Bool,(bif b then([32,111,110,10]:q9)else[32,111,102,102,10])=onS b from λ_=>rfl]
 have:∀ b,(onS b).length<=5:=xo
 have:([115,119,105,116,99,104,32]:q9).length=7:=rfl
 exact BK f.1 (zb qw) (λ(i,_,_)=>i) _ (λ_=>True) (λ(i,_,c)=>0<=i/\i<=8200/\bt c/\(c.length:Int)<=s.2.2.length+40*i) h.2.2.1⟩
instance (f:Form) (s:Int×Unit×List Int):Sp (su f f.2.1 (f.2.1.length:Int) s) (s.1=0/\f.2.1.length<=8200/\(∀ x∈f.2.1,x.1.length<=24/\rg x.2.1/\rl x.2.1<=16)/\bt s.2.2/\s.2.2.length<=1000000) (λr=>bt r.2/\r.2.length<=10000000):=⟨λh=>by
 unfold su sA
 exact BK f.2.1 (zb ql) (λ(i,_,_)=>i) _ (λ_=>True) (λ(i,_,c)=>0<=i/\i<=8200/\bt c/\(c.length:Int)<=s.2.2.length+800*i) h.2.2.1⟩
instance (f:Form) (s:Int×Unit×List Int):Sp (sw f (f.2.2.1.length:Int) s) (s.1=0/\FV f/\bt s.2.2/\s.2.2.length<=10000000) (λr=>bt r.2/\r.2.length<=90000000000000):=⟨λh=>by
 have hw:=h.2.1.1.2.2.1.1
 unfold sw sB
 exact BK f.2.2.1 (zb xy) (λ(i,_,_)=>i) (λ_=>True) (λ_=>True) (λ(i,_,c)=>0<=i/\i<=8200/\bt c/\(c.length:Int)<=s.2.2.length+10920000000*i) (λ_ _=>trivial)⟩
instance (l:List eC) (s:Int×Unit×List Int):Sp (sx l (l.length:Int) s) (s.1=0/\l.length<=8200/\(∀ x∈l,x.1.length<=24/\0<=x.2.1/\x.2.1<4/\x.2.2.1.length<=24/\EW KK x.2.2.2.1/\EW KK x.2.2.2.2.1)/\bt s.2.2/\s.2.2.length<=90000000000000) (λr=>bt r.2/\r.2.length<=100000000000000):=⟨λh=>by
 have hn:∀ (l:List q9) (i:Int),(l.length=4/\∀ s∈l,s.length<=8)->0<=i->i<4->(nth l i (zb .str)).length<=8:=λl i h h0 h1=>h.2 _ (wa h0 (Z))
 unfold sx sC
 exact BK l (zb xp) (λ(i,_,_)=>i) _ (λ_=>True) (λ(i,_,c)=>0<=i/\i<=8200/\bt c/\(c.length:Int)<=s.2.2.length+1400000*i) h.2.2.1⟩
instance (f:Form):Sp (nO f) (FV f) (λ_=>True):=⟨λh=>by
 have hv:=h
 have e:bt []:=λ_ h=>nomatch h
 obtain⟨⟨⟨a1,_⟩,⟨a2,b2⟩,_,_,⟨a5,b5⟩,_⟩,c1,c2,_,_,c5,_⟩:=h
 have h1:=λ(x:Param) N=>(⟨(c2 x N).1,(b2 x N).2.1,(c2 x N).2⟩:x.1.length<=24/\rg x.2.1/\rl x.2.1<=16)
 have X:=λ(x:eC) N=>(⟨(c5 x N).1,(c5 x N).2.1,(c5 x N).2.2.1,(c5 x N).2.2.2.1,(b5 x N).2.2⟩:x.1.length<=24/\0<=x.2.1/\x.2.1<4/\x.2.2.1.length<=24/\EW KK x.2.2.2.1/\EW KK x.2.2.2.2.1)
 have h3:∀ l,bt l->∀ n∈l,(0:Int)<=n/\n<256:=λ_ h=>h
 clear b2 b5 c2 c5
 unfold nO pR z4E oZ
 exact goa⟩
instance (f:Form):Sp (ZB f) (FW 8200 f) (λr=>r=true->FV f):=⟨λh=>by
 have hk:FW KK f:=by obtain⟨⟨a1,b1⟩,⟨a2,b2⟩,⟨a3,b3⟩,⟨a4,b4⟩,⟨a5,b5⟩,a6,b6⟩:=h; unfold FW KK; exact⟨⟨Z,b1⟩,⟨Z,b2⟩,⟨Z,b3⟩,⟨Z,b4⟩,⟨Z,b5⟩,Z,b6⟩
 unfold ZB
 refine T.z8 hk λb I=>T.zg (λe=>T.z8 h λc hc=>T.zg (λe1=>T.z8 h λd J=>T.zg (λe2 => ?_) λ_=>T.zd nofun) λ_=>T.zd nofun) λ_=>T.zd nofun
 have hv:FV f:=⟨h,(I e).1,(I e).2.1,(I e).2.2,hc e1,J e2⟩
 exact T.z8 hv λ_ _=>T.zd λ_=>hv⟩
open T PL
def ss(l:List q9):Prop:=∀ s∈l,s.length<=KK
theorem z4B{a:List q9}(h:ss a){s:q9}(hs:s.length<=KK):ss (a++[s]):=λx N=>by
 rcases List.mem_append.1 N with k | k
 ·exact h x k
 ·rw[qL.1 k]; exact hs
theorem MZ:ss []:=λ_ h=>nomatch h
theorem Fy{p:Prop} (h:p:=by
 intros
 repeat' (with_reducible first
  | refine T.zd ?_
  | refine T.zg (λ_ => ?_) (λ_ => ?_)
  | refine T.za ?_
  | refine T.zh ?_
  | refine T.vG ?_ ?_
  | refine T.qk ?_ ?_
  | refine T.vJ ?_ ?_
  | refine T.vt ?_ ?_
  | refine T.zc ?_ ?_
  | refine T.vY (λ_ _ => ?_) (λ_ _ => ?_)
  | refine T.z8 ?_ (λ_ _ => ?_)
  | refine T.vI ?_ (λ_ _ => ?_)
  | refine T.xe ?_
  | dsimp only)
 all_goals grind [xf,uM,dH,jf,vV,jb,V7,G9,z4B,MZ,List.length_append,yO,Er,Bz]):p:=h
theorem ru{σ ρ α:Type}(l:List α)(d:α)(ix:σ->Int)(A P:α->Prop)(hd:σ->Prop)(hA:∀ x∈l,A x){r:σ->T (σ⊕ρ)}{Q:ρ->Prop}{s:σ}(hs:ix s=0/\hd s:=by grind [MZ])
  (step:∀ s x,hd s->A x->nth l (ix s) d=x->0<=ix s->ix s<l.length->(r s).wp λz=>match z with | .inl s'=>ix s'=ix s+1/\hd s'/\P x | .inr y=>Q y:=by
 intros
 repeat' (with_reducible first
  | refine T.zd ?_
  | refine T.zg (λ_ => ?_) (λ_ => ?_)
  | refine T.za ?_
  | refine T.zh ?_
  | refine T.vG ?_ ?_
  | refine T.qk ?_ ?_
  | refine T.vJ ?_ ?_
  | refine T.vt ?_ ?_
  | refine T.zc ?_ ?_
  | refine T.vY (λ_ _ => ?_) (λ_ _ => ?_)
  | refine T.z8 ?_ (λ_ _ => ?_)
  | refine T.vI ?_ (λ_ _ => ?_)
  | refine T.xe ?_
  | dsimp only)
 all_goals grind [xf,uM,dH,jf,vV,jb,V7,G9,z4B,MZ,List.length_append,yO,Er,Bz])
  (done:∀ s,hd s->ix s=l.length->(∀ x∈l,P x)->(r s).wp λz=>match z with | .inl _=>False | .inr y=>Q y:=by
 intros
 repeat' (with_reducible first
  | refine T.zd ?_
  | refine T.zg (λ_ => ?_) (λ_ => ?_)
  | refine T.za ?_
  | refine T.zh ?_
  | refine T.vG ?_ ?_
  | refine T.qk ?_ ?_
  | refine T.vJ ?_ ?_
  | refine T.vt ?_ ?_
  | refine T.zc ?_ ?_
  | refine T.vY (λ_ _ => ?_) (λ_ _ => ?_)
  | refine T.z8 ?_ (λ_ _ => ?_)
  | refine T.vI ?_ (λ_ _ => ?_)
  | refine T.xe ?_
  | dsimp only)
 all_goals grind):(T.loop r s).wp Q:=eX l d ix A P hd hA hs step done
instance (f:Form) (s:Int×List q9):Sp (pW f f.1 (f.1.length:Int) s) (s.1=0/\f.1.length<=8200/\(∀ x∈f.1,x.1.length<=KK)/\ss s.2/\s.2.length<=100000) (λr=>ss r/\r.length<=s.2.length+f.1.length):=⟨λh=>by
 unfold pW r9
 exact ru f.1 (zb qw) (λ(i,_)=>i) _ (λ_=>True) (λ(i,c)=>0<=i/\i<=f.1.length/\ss c/\(c.length:Int)<=s.2.length+i) h.2.2.1⟩
instance (f:Form) (s:Int×List q9):Sp (pX f f.2.1 (f.2.1.length:Int) s) (s.1=0/\f.2.1.length<=8200/\(∀ x∈f.2.1,x.1.length<=KK)/\ss s.2/\s.2.length<=100000) (λr=>ss r/\r.length<=s.2.length+f.2.1.length):=⟨λh=>by
 unfold pX rb
 exact ru f.2.1 (zb ql) (λ(i,_)=>i) _ (λ_=>True) (λ(i,c)=>0<=i/\i<=f.2.1.length/\ss c/\(c.length:Int)<=s.2.length+i) h.2.2.1⟩
instance (f:Form) (s:Int×List q9):Sp (pY f f.2.2.1 (f.2.2.1.length:Int) s) (s.1=0/\f.2.2.1.length<=8200/\(∀ x∈f.2.2.1,x.1.length<=KK)/\ss s.2/\s.2.length<=100000) (λr=>ss r/\r.length<=s.2.length+f.2.2.1.length):=⟨λh=>by
 unfold pY rf
 exact ru f.2.2.1 (zb xy) (λ(i,_)=>i) _ (λ_=>True) (λ(i,c)=>0<=i/\i<=f.2.2.1.length/\ss c/\(c.length:Int)<=s.2.length+i) h.2.2.1⟩
instance (f:Form) (s:Int×List q9):Sp (pZ f f.2.2.2.1 (f.2.2.2.1.length:Int) s) (s.1=0/\f.2.2.2.1.length<=8200/\(∀ x∈f.2.2.2.1,x.1.length<=KK)/\ss s.2/\s.2.length<=100000) (λr=>ss r/\r.length<=s.2.length+f.2.2.2.1.length):=⟨λh=>by
 unfold pZ rh
 exact ru f.2.2.2.1 (zb qy) (λ(i,_)=>i) _ (λ_=>True) (λ(i,c)=>0<=i/\i<=f.2.2.2.1.length/\ss c/\(c.length:Int)<=s.2.length+i) h.2.2.1⟩
instance (f:Form) (s:Int×List q9):Sp (r7 f f.2.2.2.2.1 (f.2.2.2.2.1.length:Int) s) (s.1=0/\f.2.2.2.2.1.length<=8200/\(∀ x∈f.2.2.2.2.1,x.1.length<=KK)/\ss s.2/\s.2.length<=100000) (λr=>ss r/\r.length<=s.2.length+f.2.2.2.2.1.length):=⟨λh=>by
 unfold r7 ri
 exact ru f.2.2.2.2.1 (zb xp) (λ(i,_)=>i) _ (λ_=>True) (λ(i,c)=>0<=i/\i<=f.2.2.2.2.1.length/\ss c/\(c.length:Int)<=s.2.length+i) h.2.2.1⟩
instance (l:List Check) (s:Int×List q9):Sp (r8 l (l.length:Int) s) (s.1=0/\l.length<=8200/\(∀ x∈l,x.1.length<=KK)/\ss s.2/\s.2.length<=100000) (λr=>ss r/\r.length<=s.2.length+l.length):=⟨λh=>by
 unfold r8 rj
 exact ru l (zb xm) (λ(i,_)=>i) _ (λ_=>True) (λ(i,c)=>0<=i/\i<=l.length/\ss c/\(c.length:Int)<=s.2.length+i) h.2.2.1⟩
instance (f:Form) (s:Int×List q9):Sp (fc f f.2.2.1 (f.2.2.1.length:Int) s) (s.1=0/\f.2.2.1.length<=8200/\(∀ x∈f.2.2.1,x.2.1.length<=KK)/\ss s.2/\s.2.length<=100000) (λr=>ss r/\r.length<=s.2.length+f.2.2.1.length):=⟨λh=>by
 unfold fc fg
 exact ru f.2.2.1 (zb xy) (λ(i,_)=>i) _ (λ_=>True) (λ(i,c)=>0<=i/\i<=f.2.2.1.length/\ss c/\(c.length:Int)<=s.2.length+i) h.2.2.1⟩
instance (f:Form) (s:Int×List q9):Sp (ff f f.2.2.2.2.1 (f.2.2.2.2.1.length:Int) s) (s.1=0/\f.2.2.2.2.1.length<=8200/\(∀ x∈f.2.2.2.2.1,x.2.2.1.length<=KK)/\ss s.2/\s.2.length<=100000) (λr=>ss r/\r.length<=s.2.length+f.2.2.2.2.1.length):=⟨λh=>by
 unfold ff fh
 exact ru f.2.2.2.2.1 (zb xp) (λ(i,_)=>i) _ (λ_=>True) (λ(i,c)=>0<=i/\i<=f.2.2.2.2.1.length/\ss c/\(c.length:Int)<=s.2.length+i) h.2.2.1⟩
instance (f:Form) (s:Int×List q9):Sp (nY f f.2.2.2.1 (f.2.2.2.1.length:Int) s) (s.1=0/\f.2.2.2.1.length<=8200/\(∀ x∈f.2.2.2.1,x.1.length<=KK)/\ss s.2/\s.2.length<=100000) (λr=>ss r/\r.length<=s.2.length+f.2.2.2.1.length):=⟨λh=>by
 unfold nY o0
 exact ru f.2.2.2.1 (zb qy) (λ(i,_)=>i) _ (λ_=>True) (λ(i,c)=>0<=i/\i<=f.2.2.2.1.length/\ss c/\(c.length:Int)<=s.2.length+i) h.2.2.1⟩
instance (f:Form):Sp (sW f) (FV f) (λr=>ss r/\r.length<=50000):=⟨λh=>by
 obtain⟨⟨⟨a1,b1⟩,⟨a2,b2⟩,⟨a3,b3⟩,⟨a4,b4⟩,⟨a5,b5⟩,a6,b6⟩,_⟩:=h
 have b2:=λx N=>(b2 x N).1
 have b3:=λx N=>(b3 x N).1
 have b5:=λx N=>(b5 x N).1
 have b6:=λx N=>(b6 x N).1
 unfold sW oZ
 exact Fy⟩
instance (l:List q9):Sp (sX l) (ss l/\l.length<=50000) (λ_=>True):=⟨λh=>by
 unfold sX
 exact T.zc ⟨Z,λs hs=>zQ (h.1 s hs) (by unfold KK; omega)⟩ (T.zd trivial)⟩
instance (a:Switch) (s:q9):Sp (vZ a s) True (λ_=>True):=⟨λ_=>by unfold vZ; exact Fy⟩
instance (s:q9) (f:Form):Sp (jW s f) (f.1.length<=8200) (λ_=>True):=⟨λh=>by unfold jW; exact Fy⟩
instance (a:List q9) (c:q9->T Bool) (p:q9->Prop) (P:q9->Bool->Prop) [∀ x,Sp (c x) (p x) (P x)]:Sp (wY a c) (a.length<=1000000000000/\∀ x∈a,p x) (Bz a P (zb .str)):=⟨ixq⟩
instance (a:List q9) (c:q9->T Bool) (p:q9->Prop) (P:q9->Bool->Prop) [∀ x,Sp (c x) (p x) (P x)]:Sp (kJ a c) (a.length<=1000000000000/\∀ x∈a,p x) (Er a P):=⟨λh=>cnq (Sp.sp h)⟩
instance (f:Form):Sp (eP f) (FV f) (λ_=>True):=⟨λh=>by
 obtain⟨⟨⟨a1,b1⟩,⟨a2,b2⟩,⟨a3,b3⟩,⟨a4,b4⟩,⟨a5,b5⟩,a6,b6⟩,_⟩:=h
 have b3:=λx N=>(b3 x N).2
 have b5:=λx N=>(b5 x N).2.1
 unfold eP oZ
 exact Fy⟩
instance (a:List q9) (c:q9) (s:Int):Sp (gA a c (a.length:Int) s) (s=0/\a.length<=1000000) (λr=>match r with | .inl _=>True | .inr i=>0<=i/\i<a.length):=⟨λh=>by
 unfold gA gB
 exact ru a (zb .str) (λ(i:Int)=>i) (λ_=>True) (λ_=>True) (λ(i:Int)=>i<=1000000) (λ_ _=>trivial)⟩
instance (a:List q9) (c:q9):Sp (wI a c) (a.length<=1000000) (λr => -1<=r/\r<a.length):=⟨λh=>by unfold wI; exact Fy⟩
instance (a:List q9) (c:q9):Sp (wN a c) (a.length<=1000000) (λ_=>True):=⟨λh=>by unfold wN; exact Fy⟩
open T PL
theorem _root_.Go.AM.EO.uniq{m:Nat}{e:Expr}(h:EO m e):∀ {n:Nat},EO n e->m=n:=by
 induction h with
 | num=>intro n h; cases h; rfl
 | nam=>intro n h; cases h; rfl
 | neg _ ih =>
  intro n h
  cases h with
  | neg h=>rw[ih h]
 | bin a b _ _ ih jh =>
  intro n h
  cases h with
  | bin _ _ h k=>rw[ih h,jh k]
theorem _root_.Go.AM.EO.ks{n:Nat}{e:Expr}(h:EO n e):(∀ x∈e.kids,∃ k,EO k x)/\(∀ m,Vb m e.kids->m+1=n)/\e.kids.length<=2/\(e.kind=2->e.name.length<=24):=by
 cases h with
 | num=>exact⟨nofun,λm h=>by rw[Vb.n0 h],by simp[Expr.kids],λh=>by simp[Expr.kind]at h⟩
 | nam h=>exact⟨nofun,λm h=>by rw[Vb.n0 h],by simp[Expr.kids],λ_=>h⟩
 | neg h =>
  refine⟨λx N=>⟨_,qL.1 N▸h⟩,λm hm => ?_,by simp[Expr.kids],λh=>by simp[Expr.kind]at h⟩
  obtain⟨i,j,rfl,h1,X⟩:=hm.inv [] _ rfl
  rw[h1.n0,X.uniq h]; omega
 | bin h1 X h3 h4 =>
  refine⟨λx N => ?_,λm hm => ?_,by simp[Expr.kids],λh=>by simp[Expr.kind]at h; omega⟩
  ·rcases xL.1 N with rfl | N
   ·exact⟨_,h3⟩
   ·exact⟨_,qL.1 N▸h4⟩
  ·obtain⟨i,j,rfl,g1,g2⟩:=hm.inv [_] _ rfl
   obtain⟨i',j',rfl,g3,g4⟩:=g1.inv [] _ rfl
   rw[g3.n0,g2.uniq h4,g4.uniq h3]; omega
theorem _root_.Go.AM.Vb.ex{l:List Expr}(h:∀ x∈l,∃ k,EO k x):∃ m,Vb m l:=by
 have:∀ n,n<=l.length->∃ m,Vb m (l.take n):=by
  intro n
  induction n with
  | zero=>exact λ_=>⟨0,by simpa using Vb.nil⟩
  | succ n ih =>
   intro hn
   obtain⟨m,hm⟩:=ih (Z)
   obtain⟨k,hk⟩:=h l[n] (List.getElem_mem (Z))
   rw[zY (Z)]
   exact⟨_,.snoc hm hk⟩
 simpa using this l.length (zJ _)
theorem _root_.Go.AM.Vb.uniq{m:Nat}{l:List Expr}(h:Vb m l):∀ {n:Nat},Vb n l->m=n:=by
 induction h with
 | nil=>intro n h; exact h.n0.symm
 | snoc _ h1 ih =>
  intro n h
  obtain⟨i,j,rfl,g1,g2⟩:=h.inv _ _ rfl
  rw[ih g1,h1.uniq g2]
theorem _root_.Go.AM.Vb.le{m:Nat}{l:List Expr}(h:Vb m l):∀ i,∃ k,Vb k (l.take i)/\k<=m:=by
 induction h with
 | nil=>intro i; exact⟨0,by simpa using Vb.nil,zJ _⟩
 | @snoc m n l a h h1 ih =>
  intro i
  by_cases e:i<=l.length
  ·obtain⟨k,hk,hle⟩:=ih i
   rw[List.take_append_of_le_length e]
   exact⟨k,hk,Z⟩
  ·rw[zI (by simp; omega)]
   exact⟨_,.snoc h h1,zJ _⟩
theorem zaN{σ ρ:Type}(l:List Expr)(ix:σ->Int)(hd:Nat->σ->Prop){zC:Nat}(hM:Vb zC l)(hA:∀ x∈l,∃ k,EO k x){r:σ->T (σ⊕ρ)}{Q:ρ->Prop}{s:σ}(hs:ix s=0/\hd 0 s)
  (step:∀ m k s x,hd m s->EO k x->x∈l->m+k<=zC->nth l (ix s) (zb .expr)=x->0<=ix s->ix s<l.length->(r s).wp λz=>match z with | .inl s'=>ix s'=ix s+1/\hd (m+k) s' | .inr y=>Q y)
  (done:∀ s,hd zC s->ix s=l.length->(r s).wp λz=>match z with | .inl _=>False | .inr y=>Q y):(T.loop r s).wp Q:=by
 refine eX l (zb .expr) ix (λx=>x∈l) (λ_=>True) (λs=>0<=ix s/\∃ m,hd m s/\Vb m (l.take (ix s).toNat)) (λ_ h=>h) ⟨hs.1,Z,0,hs.2,by rw[hs.1]; exact .nil⟩ (λs x ⟨h0,m,h1,X⟩ N he _ R => ?_) λs ⟨h0,m,h1,X⟩ he _ => ?_
 ·obtain⟨k,hk⟩:=hA x N
  have h3:=Vb.snoc X hk
  rw[<- he,<- ef l _ (zb .expr) h0 R]at h3
  obtain⟨k',Yv,hle⟩:=hM.le (ix s+1).toNat
  have:=h3.uniq Yv
  refine T.xv (step m k s x h1 hk N (Z) he h0 R) λz hz => ?_
  cases z with
  | inl s'=>exact⟨hz.1,⟨Z,_,hz.2,by rw[hz.1]; exact h3⟩,trivial⟩
  | inr y=>exact hz
 ·rw[he,zA,List.take_length]at X
  exact done s (X.uniq hM▸h1) he
theorem O7{e x:Expr}(h:x∈e.kids):zR x<zR e:=by
 cases e
 have:=xG h
 simp only[Expr.kids]at this
 simp; omega
instance (e:Expr) (a:List q9):Sp (oU e a) (EK e/\ss a/\a.length<=100000) (λr=>ss r/\r.length<=a.length+256):=⟨λh=>by
 obtain⟨⟨n,hn,he⟩,h⟩:=h
 unfold oU
 refine T.xv (P:=λr=>∀ n,EO n e->ss r/\r.length<=a.length+n) ?_ λr hr=>⟨(hr n he).1,by have:=(hr n he).2; omega⟩
 refine T.sM (x:=(e,a)) (λ(e,a)=>(∃ n,EO n e/\a.length+n<=200000)/\ss a) (λ(e,_)=>zR e) (λ(e,a) r=>∀ n,EO n e->ss r/\r.length<=a.length+n) ?_ ?_ ⟨⟨n,he,Z⟩,h.1⟩
 ·intro g g' hg x
  unfold dz cC eQ
  exact mono
 ·intro⟨e,a⟩ ⟨⟨n,he,hn⟩,h1⟩ g hg
  obtain⟨k1,k2,k3,k4⟩:=he.ks
  obtain⟨zC,hM⟩:=Vb.ex k1
  have k2:=k2 zC hM
  have R:∀ d:List q9,ss d/\d.length<=a.length+1->(cC (λy0 y1=>g (y0,y1)) e.kids (Nat.cast e.kids.length:Int) (0,d)).wp λr=>ss r/\r.length<=a.length+n:=λd J=>by
   unfold cC eQ
   refine zaN e.kids (λ(i,_)=>i) (λm (_,c)=>ss c/\c.length<=a.length+1+m) hM k1 ⟨rfl,J⟩ (λm k ⟨i,c⟩ x hj hk N hle hxe h0 wO => ?_) λ⟨i,c⟩ hj hi => ?_
   ·dsimp only at h0 wO hxe
    refine T.zg (λ_=>T.qk ⟨h0,wO⟩ (T.zh (T.za (T.xe (T.xv (hg (nth e.kids i (zb .expr),c) ⟨⟨k,hxe▸hk,by have:=hj.2; omega⟩,hj.1⟩ (O7 (hxe▸N))) λr hr=>T.zh (T.za (T.zd ?_))))))) λhf=>absurd wO (yT hf)
    have:=hr k (hxe▸hk)
    exact⟨qo (Z) (Z),this.1,by have:=hj.2; omega⟩
   ·dsimp only at hi
    refine T.zg (λht=>absurd (uf ht) (Z)) λ_=>T.zh (T.za (T.zd ⟨hj.1,by have:=hj.2; omega⟩))
  have hs:∀ d:List q9,Sp (cC (λy0 y1=>g (y0,y1)) e.kids (Nat.cast e.kids.length:Int) (0,d)) (ss d/\d.length<=a.length+1) (λr=>ss r/\r.length<=a.length+n):=λd=>⟨R d⟩
  have hq:∀ n',EO n' e->n'=n:=λn' h=>h.uniq he
  have k5:e.kind=2->e.name.length<=KK:=λh=>by have:=k4 h; unfold KK; omega
  clear hg R hM k1 k4
  unfold dz
  exact Fy⟩
instance (l:List Expr) (s:Int×List q9):Sp (mg l (l.length:Int) s) (s.1=0/\l.length<=2/\(∀ x∈l,EK x)/\ss s.2/\s.2.length<=50000) (λr=>ss r/\r.length<=s.2.length+512):=⟨λh=>by
 unfold mg mh
 exact ru l (zb .expr) (λ(i,_)=>i) _ (λ_=>True) (λ(i,c)=>0<=i/\i<=2/\ss c/\(c.length:Int)<=s.2.length+256*i) h.2.2.1⟩
theorem EK.ks{e:Expr}(h:EK e):(∀ x∈e.kids,EK x)/\e.kids.length<=2/\(e.kind=2->e.name.length<=KK):=by
 obtain⟨n,hn,he⟩:=h
 obtain⟨k1,k2,k3,k4⟩:=he.ks
 obtain⟨zC,hM⟩:=Vb.ex k1
 refine⟨λx N => ?_,k3,λh=>by have:=k4 h; unfold KK; omega⟩
 obtain⟨k,hk⟩:=k1 x N
 have:=k2 zC hM
 obtain⟨i,h0,h1,rfl⟩:=Yz (d:=zb .expr) N
 obtain⟨a,ha,ha'⟩:=hM.le i.toNat
 obtain⟨b,I,Yc⟩:=hM.le (i+1).toNat
 rw[ef _ _ (zb .expr) h0 h1]at I
 have:=I.uniq (.snoc ha hk)
 exact⟨k,Z,hk⟩
instance (e:Expr) (a:List q9):Sp (mR e a) (EK e/\ss a/\a.length<=10000) (λr=>ss r/\r.length<=a.length+600):=⟨λh=>by
 obtain⟨k1,k2,k3⟩:=EK.ks h.1
 unfold mR
 exact Fy⟩
instance (e:Expr):Sp (dy e) (EK e) (λr=>ss r/\r.length<=600):=⟨λh=>by unfold dy oZ; exact Fy⟩
instance (s:q9) (l:List q9):Sp (bX s l) (l.length<=1000000) (λ_=>True):=⟨λh=>by unfold bX; exact Fy⟩
instance (e:Expr) (l:List q9):Sp (Za e l) (EK e/\l.length<=1000000) (λ_=>True):=⟨λh=>by unfold Za; exact Fy⟩
instance (e:Expr) (l:List q9):Sp (fT e l) (EK e/\l.length<=1000000) (λ_=>True):=⟨λh=>by
 unfold fT
 refine T.sM (x:=(e,l)) (λ(e,l)=>EK e/\l.length<=1000000) (λ(e,_)=>zR e) (λ_ _=>True) ?_ ?_ h
 ·intro g g' hg x
  unfold dq jj hJ dc yo j7
  exact mono
 ·intro⟨e,l⟩ ⟨he,R⟩ g hg
  obtain⟨k1,k2,k3⟩:=EK.ks he
  have hn:e.kids.length=2->EK (nth e.kids 0 (zb .expr))/\EK (nth e.kids 1 (zb .expr)):=λh=>⟨k1 _ (wa (Z) (Z)),k1 _ (wa (Z) (Z))⟩
  have hc:∀ x,Sp (j7 (λy0 y1=>g (y0,y1)) x l) (x∈e.kids) (λ_=>True):=λx=>⟨λN=>T.xe (T.xv (hg (x,l) ⟨k1 x N,R⟩ (O7 N)) λ_ _=>T.zd trivial)⟩
  have hs:Sp (jj (λy0 y1=>g (y0,y1)) e.kids λx=>j7 (λy0 y1=>g (y0,y1)) x l) True (λ_=>True):=⟨λ_=>T.xv (cnq (ixq (d0:=zb .expr) (l:=e.kids) (c:=λx=>j7 (λy0 y1=>g (y0,y1)) x l) ⟨Z,λ_ h=>h⟩)) λ_ _=>trivial⟩
  clear hg k1 hc
  unfold dq
  exact Fy⟩
instance (a:Param) (s:q9):Sp (uL a s) True (λ_=>True):=⟨λ_=>by unfold uL; exact Fy⟩
instance (s:q9) (l:List q9) (f:Form):Sp (yC s l f) (f.2.1.length<=8200/\l.length<=1000000) (λ_=>True):=⟨λh=>by unfold yC; exact Fy⟩
instance (a b c:List q9):Sp (jg [a,b,c]) (a.length+b.length+c.length<=1000000000/\ss a/\ss b/\ss c) (λr=>ss r/\r.length=a.length+b.length+c.length):=⟨λh=>by
 unfold jg
 refine T.zc ⟨qp,by simp; omega,qp⟩ (T.zd ⟨λx N => ?_,by simp; omega⟩)
 simp at N
 rcases N with k | k | k
 ·exact h.2.1 x k
 ·exact h.2.2.1 x k
 ·exact h.2.2.2 x k⟩
instance (f:Form) (d:List q9) (s:List q9×Int):Sp (lU f d f.2.2.2.2.2.1 (f.2.2.2.2.2.1.length:Int) s) (s.2=0/\f.2.2.2.2.2.1.length<=8200/\(∀ x∈f.2.2.2.2.2.1,EK x.2.2.2.1/\EK x.2.2.2.2.1)/\ss s.1/\s.1.length<=10) (λr=>ss r/\r.length<=20000000):=⟨λh=>by
 unfold lU lW
 exact ru f.2.2.2.2.2.1 (zb xm) (λ(_,i)=>i) _ (λ_=>True) (λ(c,i)=>0<=i/\i<=8200/\ss c/\(c.length:Int)<=s.1.length+1200*i) h.2.2.1⟩
instance (f:Form) (d:List q9) (s:List q9×Int):Sp (lV f d f.2.2.2.2.1 (f.2.2.2.2.1.length:Int) s) (s.2=0/\f.2.2.2.2.1.length<=8200/\(∀ x∈f.2.2.2.2.1,EK x.2.2.2.1/\EK x.2.2.2.2.1)/\ss s.1/\s.1.length<=20000000) (λr=>ss r/\r.length<=40000000):=⟨λh=>by
 unfold lV lX
 exact ru f.2.2.2.2.1 (zb xp) (λ(_,i)=>i) _ (λ_=>True) (λ(c,i)=>0<=i/\i<=8200/\ss c/\(c.length:Int)<=s.1.length+1200*i) h.2.2.1⟩
theorem FV.fe{f:Form}(h:FV f):(f.2.1.length<=8200/\f.2.2.2.1.length<=8200/\f.2.2.2.2.1.length<=8200/\f.2.2.2.2.2.1.length<=8200)/\(∀ x∈f.2.2.2.2.1,EK x.2.2.2.1/\EK x.2.2.2.2.1)/\(∀ x∈f.2.2.2.2.2.1,EK x.2.2.2.1/\EK x.2.2.2.2.1)/\(∀ x∈f.2.2.2.1,x.1.length<=KK):=by
 obtain⟨⟨_,⟨a2,_⟩,_,⟨a4,b4⟩,⟨a5,_⟩,a6,_⟩,_,_,_,_,c5,c6⟩:=h
 exact⟨⟨a2,a4,a5,a6⟩,λx N=>(c5 x N).2.2.2.2,λx N=>(c6 x N).2.2.2,b4⟩
instance (f:Form) (d:List q9):Sp (mF f d) (FV f/\d.length<=1000000) (λ_=>True):=⟨λh=>by
 obtain⟨h1,X,h3,_⟩:=FV.fe h.1
 unfold mF
 exact Fy⟩
instance (l:List eC) (s:Int×List q9):Sp (nZ l (l.length:Int) s) (s.1=0/\l.length<=8200/\(∀ x∈l,EK x.2.2.2.1/\EK x.2.2.2.2.1)/\s.2.length<=100000) (λr=>match r with | .inl _=>True | .inr z=>z.1≠0):=⟨λh=>by
 unfold nZ o5
 exact ru l (zb xp) (λ(i,_)=>i) _ (λ_=>True) (λ(i,c)=>0<=i/\i<=8200/\c.length<=100000) h.2.2.1⟩
instance (f:Form):Sp (fU f) (FW 8200 f) (λr=>r.1=0->FV f/\f.2.2.2.1.length<=64/\f.2.2.2.2.1.length<=64):=⟨λh=>by
 have h1:FV f->_:=FV.fe
 unfold fU oZ
 exact Fy⟩
open T PL
instance (f:Form):Sp (tF f) (FW 8200 f) (λ_=>True):=⟨λh=>by unfold tF; exact goq⟩
def PI(p:ze):Prop:=p.1.length<=1000000/\0<=p.2.1/\p.2.1<=p.1.length/\0<=p.2.2.1/\p.2.2.1<=31
def PG(p q:ze):Prop:=PI q/\q.1=p.1/\p.2.1<=q.2.1/\q.2.2.1=p.2.2.1
theorem WA(l:q9)(c:UInt8) : -1<=UR l c/\UR l c<l.length:=by
 induction l with
 | nil=>simp[UR]
 | cons b l ih=>unfold UR; rw[List.length_cons]; split; omega; split<;>omega
theorem EW0:EW KK (Expr.mk 0 (false,[],[],()) [] []):=.mk ⟨wE,wE⟩ (by simp[rl]) (qp) (qp) nofun
theorem EWn(n:Lf.Rat)(h:rg n/\rl n<=1700):EW KK (Expr.mk 1 n [] []):=.mk h.1 (by unfold KK; omega) (qp) (qp) nofun
theorem EWz:EW KK (Expr.mk 1 (false,[],[],()) [] []):=.mk ⟨wE,wE⟩ (by simp[rl]) (qp) (qp) nofun
theorem EWs(s:q9)(h:s.length<=KK):EW KK (Expr.mk 2 (false,[],[],()) s []):=.mk ⟨wE,wE⟩ (by simp[rl]) h (qp) nofun
theorem EW1(k:Int)(a:Expr)(h:EW KK a):EW KK (Expr.mk k (false,[],[],()) [] [a]):=.mk ⟨wE,wE⟩ (by simp[rl]) (qp) (by unfold KK; simp) (by simpa using h)
theorem EW2(k:Int)(a b:Expr)(h:EW KK a)(g:EW KK b):EW KK (Expr.mk k (false,[],[],()) [] [a,b]):=.mk ⟨wE,wE⟩ (by simp[rl]) (qp) (by unfold KK; simp) (by simpa using⟨h,g⟩)
theorem gop{p:Prop} (h:p:=by
 intros
 repeat' (with_reducible first
  | refine T.zd ?_
  | refine T.zg (λ_ => ?_) (λ_ => ?_)
  | refine T.za ?_
  | refine T.zh ?_
  | refine T.vG ?_ ?_
  | refine T.qk ?_ ?_
  | refine T.vJ ?_ ?_
  | refine T.vt ?_ ?_
  | refine T.zc ?_ ?_
  | refine T.vY (λ_ _ => ?_) (λ_ _ => ?_)
  | refine T.z8 ?_ (λ_ _ => ?_)
  | refine T.vI ?_ (λ_ _ => ?_)
  | refine T.xe ?_
  | dsimp only)
 all_goals grind [xf,uM,dH,jf,jb,V7,G9,XG,Ts,PI,PG,WA,EW0,EWn,EWs,EW1,EW2,EWz]):p:=h
theorem lpp{σ ρ:Type}{r:σ->T (σ⊕ρ)}{Q:ρ->Prop}(hb:σ->Prop)(μ:σ->Nat){s:σ}(hs:hb s:=by grind [PI,PG])
  (h:∀ s,hb s->(r s).wp λz=>match z with | .inl s'=>hb s'/\μ s'<μ s | .inr y=>Q y:=by
 intros
 repeat' (with_reducible first
  | refine T.zd ?_
  | refine T.zg (λ_ => ?_) (λ_ => ?_)
  | refine T.za ?_
  | refine T.zh ?_
  | refine T.vG ?_ ?_
  | refine T.qk ?_ ?_
  | refine T.vJ ?_ ?_
  | refine T.vt ?_ ?_
  | refine T.zc ?_ ?_
  | refine T.vY (λ_ _ => ?_) (λ_ _ => ?_)
  | refine T.z8 ?_ (λ_ _ => ?_)
  | refine T.vI ?_ (λ_ _ => ?_)
  | refine T.xe ?_
  | dsimp only)
 all_goals grind [xf,uM,dH,jf,jb,V7,G9,XG,Ts,PI,PG,WA,EW0,EWn,EWs,EW1,EW2,EWz]):(T.loop r s).wp Q:=T.vx hb μ hs h
instance (p:ze):Sp (bC p) (PI p) (PG p):=⟨λh=>by
 unfold bC bD
 exact lpp (PG p) (λq=>(q.1.length-q.2.1).toNat)⟩
instance (e:q9) (p:ze):Sp (uN e p) (PI p) (λr=>PG p r.2/\(r.1=0\/(0<=UR e (byteOf r.1)/\p.2.1<r.2.2.1))):=⟨λh=>by
 have e1:∀ x:Int,-1000000000<=x->x<=1000000000->qj (qj (x+1)-1)=x:=λx h0 h1=>by rw[qo (x:=x+1) (Z) (Z),qo (Z) (Z)]; omega
 unfold uN dA strings_IndexByte
 exact gop⟩
instance (p:ze):Sp (kG p) (PI p) (λr=>match r with | .inl q=>PI q/\q.1=p.1/\q.2.1=p.2.1/\q.2.2.1=p.2.2.1+1 | .inr z=>z.1.1≠0):=⟨λh=>by
 unfold kG vu
 exact gop⟩
instance (c:Int->T Bool) [∀ x,Sp (c x) True (λ_=>True)] (m f:Int) (p:ze):Sp (cj c m f p) (PI p) (PG p):=⟨λh=>by
 unfold cj yk
 exact lpp (PG p) (λq=>(q.1.length-q.2.1).toNat)⟩
instance (c:Int->T Bool) [∀ x,Sp (c x) True (λ_=>True)] (m:Int) (p:ze):Sp (uO c m p) (PI p) (λr=>PG p r.2/\r.1.length<=1000000):=⟨λh=>by
 unfold uO
 exact gop⟩
instance (a:Int):Sp (ko a) True (λ_=>True):=⟨λ_=>by unfold ko; exact gop⟩
def PR(p:ze)(r:(Expr×ze)⊕(xi×ze)):Prop:=match r with | .inl z=>EW KK z.1/\PG p z.2 | .inr z=>z.1.1≠0
instance (p:ze):Sp (kF p) (PI p) (PR p):=⟨λh=>by
 unfold kF vu PR
 exact gop⟩
def PQ(p:ze)(r:(Expr×ze)⊕(xi×ze)):Prop:=(∀ z,r=.inl z->EW KK z.1/\PG p z.2)/\∀ z,r=.inr z->z.1.1≠0
theorem zfN{p:ze}{r:(Expr×ze)⊕(xi×ze)}(h:PR p r):PQ p r:=⟨λz e=>by subst e; exact h,λz e=>by subst e; exact h⟩
theorem zo7{p:Prop} (h:p:=by
 intros
 repeat' (with_reducible first
  | refine T.zd ?_
  | refine T.zg (λ_ => ?_) (λ_ => ?_)
  | refine T.za ?_
  | refine T.zh ?_
  | refine T.vG ?_ ?_
  | refine T.qk ?_ ?_
  | refine T.vJ ?_ ?_
  | refine T.vt ?_ ?_
  | refine T.zc ?_ ?_
  | refine T.vY (λ_ _ => ?_) (λ_ _ => ?_)
  | refine T.z8 ?_ (λ_ _ => ?_)
  | refine T.vI ?_ (λ_ _ => ?_)
  | refine T.xe ?_
  | dsimp only)
 all_goals grind [xf,uM,dH,jf,jb,PI,PG,PQ,WA,EW0,EWn,EWs,EW1,EW2,EWz]):p:=h
theorem SW{g:ze->T ((Expr×ze)⊕(xi×ze))}{a0:Int}{s:q9}(hg:∀ y,PI y/\a0<y.2.1/\y.1=s->(g y).wp (PQ y))(p:ze)(hp:PI p/\a0<=p.2.1/\p.1=s):(vM g p).wp (PQ p):=by
 unfold vM
 refine T.sM (x:=p) (λp=>PI p/\a0<=p.2.1/\p.1=s) (λp=>(p.1.length-p.2.1).toNat) (λp r=>PQ p r) ?_ ?_ hp
 ·intro F F' hF x
  unfold uE
  exact mono
 ·intro p hp F hF
  have h1:∀ y,Sp (F y) ((PI y/\a0<=y.2.1/\y.1=s)/\(y.1.length-y.2.1).toNat<(p.1.length-p.2.1).toNat) (PQ y):=λy=>⟨λh=>hF y h.1 h.2⟩
  have X:∀ y,Sp (g y) (PI y/\a0<y.2.1/\y.1=s) (PQ y):=λy=>⟨hg y⟩
  have h3:∀ p,Sp (kF p) (PI p) (PQ p):=λp=>⟨λh=>T.xv (Sp.sp h) λ_=>zfN⟩
  clear hF hg
  unfold uE vu
  exact zo7
open T PL
section
variable {g:ze->T ((Expr×ze)⊕(xi×ze))} {a0:Int} {s:q9}
theorem z2u(a b:UInt8):([a,b]:q9).length=2:=rfl
theorem LW{p:Prop} (h:p:=by
 intros
 repeat' (with_reducible first
  | refine T.zd ?_
  | refine T.zg (λ_ => ?_) (λ_ => ?_)
  | refine T.za ?_
  | refine T.zh ?_
  | refine T.vG ?_ ?_
  | refine T.qk ?_ ?_
  | refine T.vJ ?_ ?_
  | refine T.vt ?_ ?_
  | refine T.zc ?_ ?_
  | refine T.vY (λ_ _ => ?_) (λ_ _ => ?_)
  | refine T.z8 ?_ (λ_ _ => ?_)
  | refine T.vI ?_ (λ_ _ => ?_)
  | refine T.xe ?_
  | dsimp only)
 all_goals grind [xf,PG,PQ,PI,WA,EW0,EW2,z2u]):p:=h
theorem zav{e:q9}(he:e.length=2)(k:xi)(hk:∀ y,PI y/\a0<=y.2.1/\y.1=s->(vM g y).wp (PQ y))(p:ze)(hp:PI p/\a0<=p.2.1/\p.1=s):(wy g () e k p).wp (PQ p):=by
 have h1:∀ y,Sp (vM g y) (PI y/\a0<=y.2.1/\y.1=s) (PQ y):=λy=>⟨hk y⟩
 clear hk
 have h5:∀ c,UR e c<2:=λc=>by have:=(WA e c).2; omega
 have X:∀ z,Sp (vj g e k z) (PG p z.1/\EW KK z.2.2) (λr=>(∀ z,r=.inl z->EW KK z.2.1/\PG p z.1)/\∀ z,r=.inr z->z.1.1≠0):=λz=>⟨λh=>by
  unfold vj
  refine T.vx (λ(q,_,x)=>PG p q/\EW KK x) (λ(q,_,_)=>(q.1.length-q.2.1).toNat) h ?_
  unfold vk strings_IndexByte xf
  exact LW⟩
 unfold wy
 exact LW
theorem ML(hg:∀ y,PI y/\a0<y.2.1/\y.1=s->(g y).wp (PQ y))(p:ze)(hp:PI p/\a0<=p.2.1/\p.1=s):(vz g p).wp (PQ p):=by
 have h1:∀ e:q9,e.length=2->∀ k,Sp (wy g () e k p) True (PQ p):=λe he k=>⟨λ_=>zav he k (SW hg) p hp⟩
 have X:=h1 [42,47] rfl
 clear h1 hg
 unfold vz
 exact LW
theorem zaw{e:q9}(he:e.length=2)(k:xi)(hk:∀ y,PI y/\a0<=y.2.1/\y.1=s->(vz g y).wp (PQ y))(p:ze)(hp:PI p/\a0<=p.2.1/\p.1=s):(wv g () e k p).wp (PQ p):=by
 have h1:∀ y,Sp (vz g y) (PI y/\a0<=y.2.1/\y.1=s) (PQ y):=λy=>⟨hk y⟩
 clear hk
 have h5:∀ c,UR e c<2:=λc=>by have:=(WA e c).2; omega
 have X:∀ z,Sp (wZ g e k z) (PG p z.1/\EW KK z.2.2) (λr=>(∀ z,r=.inl z->EW KK z.2.1/\PG p z.1)/\∀ z,r=.inr z->z.1.1≠0):=λz=>⟨λh=>by
  unfold wZ
  refine T.vx (λ(q,_,x)=>PG p q/\EW KK x) (λ(q,_,_)=>(q.1.length-q.2.1).toNat) h ?_
  unfold v8 strings_IndexByte xf
  exact LW⟩
 unfold wv
 exact LW
end
instance (p:ze):Sp (cX p) (PI p) (PQ p):=⟨λh=>by
 unfold cX
 refine T.sM (x:=p) PI (λp=>(p.1.length-p.2.1).toNat) PQ ?_ ?_ h
 ·intro g g' hg x
  unfold yc wv wZ v8 vz wy vj vk vM uE
  exact mono
 ·intro p hp g hg
  have h1:=zaw (g:=g) (a0:=p.2.1) (s:=p.1) (e:=[43,45]) rfl (3,4,()) (ML λy h=>hg y h.1 (by grind [PI])) p ⟨hp,Z,rfl⟩
  have X:Sp (wv g () ([43,45]:q9) (3,4,()) p) True (PQ p):=⟨λ_=>h1⟩
  clear hg h1
  unfold yc
  exact LW⟩
instance (s:q9):Sp (rE s) (s.length<=1000000) (λr=>EW KK r.1):=⟨λh=>by
 unfold rE iG vu gQ gj
 exact LW⟩
open T PL
def wd(l:List q9):Prop:=∀ s∈l,1<=s.length/\s.length<=20000
theorem zf9(c:UInt8):∀ (s cur:q9),cur.length+s.length<=20000->wd (sK c cur s)/\(sK c cur s).length<=s.length+1:=by
 intro s
 induction s with
 | nil=>intro cur h; unfold sK; split; exact⟨nofun,qp⟩; rename_i e; exact⟨λx N=>by rw[qL.1 N]; have:=qT.2 e; simp at h; omega,qp⟩
 | cons b s ih =>
  intro cur h
  rw[List.length_cons]at h
  unfold sK
  split
  ·split
   ·have:=ih [] (by simp; omega); exact⟨this.1,by rw[List.length_cons]; omega⟩
   ·rename_i e
    have:=ih [] (by simp; omega)
    refine⟨λx N => ?_,by simp; omega⟩
    rcases xL.1 N with rfl | N
    ·have:=qT.2 e; omega
    ·exact this.1 x N
  ·have:=ih (cur++[b]) (by simp; omega)
   exact⟨this.1,by rw[List.length_cons]; omega⟩
instance (s:q9):Sp (tI s) (s.length<=20000) (λr=>wd r/\r.length<=20001/\(s.length=0->r.length=0)):=⟨λh=>by
 unfold tI strings_FieldsFunc
 have:=zf9 32 s [] (by simpa using h)
 refine T.xe (T.zc (Z) (T.zd (T.zd ⟨this.1,Z,λe => ?_⟩)))
 rw[U e]; rfl⟩
theorem Tk(l c:q9) : -1<=rI l c/\rI l c<l.length:=by
 induction l with
 | nil=>simp[rI]
 | cons b l ih=>unfold rI; rw[List.length_cons]; split; omega; split<;>omega
theorem gow{p:Prop} (h:p:=by
 intros
 repeat' (with_reducible first
  | refine T.zd ?_
  | refine T.zg (λ_ => ?_) (λ_ => ?_)
  | refine T.za ?_
  | refine T.zh ?_
  | refine T.vG ?_ ?_
  | refine T.qk ?_ ?_
  | refine T.vJ ?_ ?_
  | refine T.vt ?_ ?_
  | refine T.zc ?_ ?_
  | refine T.vY (λ_ _ => ?_) (λ_ _ => ?_)
  | refine T.z8 ?_ (λ_ _ => ?_)
  | refine T.vI ?_ (λ_ _ => ?_)
  | refine T.xe ?_
  | dsimp only)
 all_goals grind [xf,uM,dH,jf,vV,jb,wd,XG,Ts,O9,EW0,G9,V7,z2u,Er,Bz]):p:=h
instance (b:q9):Sp (strings_IndexAny b [60,61]) (b.length<=1000000) (λr => -1<=r/\r<b.length):=⟨λh=>by
 unfold strings_IndexAny
 exact T.zc ⟨Z,qp,qp,xo⟩ (T.zd (Tk _ _))⟩
instance (a b:q9):Sp (strings_HasPrefix a b) True (λr=>r=true->b.length<=a.length):=⟨λ_=>by unfold strings_HasPrefix kc; exact gow⟩
instance (a b:q9):Sp (strings_Contains a b) (a.length<=1000000) (λ_=>True):=⟨λh=>by unfold strings_Contains; exact gow⟩
instance (b v:q9):Sp (dL b v) (b.length<=20000/\v.length<=10) (λr=>EW KK r.1/\EW KK r.2.1):=⟨λh=>by
 have e1:([61]:q9).length=1:=rfl
 unfold dL
 exact gow⟩
instance (l:List q9) (n i:Int) (s:q9):Sp (nN l n i s) (0<=i/\i<n) (λr=>r=true->l.length=n):=⟨λh=>by unfold nN; exact gow⟩
instance (l:List q9) (i:Int):Sp (nM l i) (wd l/\0<=i/\i<=10) (λr=>r.1.length<=20000):=⟨λh=>by
 have h1:∀ j:Int,0<=j->j<l.length->1<=(nth l j (zb .str)).length/\(nth l j (zb .str)).length<=20000:=λj h0 h1=>h.1 _ (wa h0 h1)
 unfold nM
 exact gow⟩
end Go.AM.Lf
