/-
  Plain laws of the lifted program, part 0.
-/
import Derived.Test.YtjklmealdnfhfaaGreatDoorLf1
import Derived.Test.YtjklmealdnfhfaaGreatDoorAmA
import Derived.Test.YtjklmealdnfhfaaGreatDoorAmD
import Derived.KernelRfl
set_option linter.unusedVariables false
open Int renaming toNat_natCast -> zA, eq_ofNat_of_zero_le -> qN, tdiv -> xI, tmod -> xJ
open Nat renaming mul_le_mul_right -> Y, mul_comm -> zE, pow_succ -> zF, lt_of_le_of_lt -> zG, le_refl -> zJ, mul_le_mul_left -> zK, gcd -> zL, div_lt_iff_lt_mul -> zM, le_div_iff_mul_le -> zN, pos_of_ne_zero -> zO, le_trans -> zQ, pow_pos -> zT, lt_of_mul_lt_mul_right -> zU, mod_lt -> zV, strongRecOn -> zX, pow_le_pow_right -> zZ, pow_add -> qA, eq_zero_or_pos -> qB, div_add_mod -> qC, mul_lt_mul_of_pos_right -> qD, add_comm -> qG, add_zero -> qH, div_eq_of_lt -> qI, mul_assoc -> qJ, div_le_self -> qK, xor_lt_two_pow -> qM, mul_add -> qO, div_div_eq_div_mul -> qQ, mod_eq_of_lt -> qS, div_mul_le_self -> qV, mul_le_mul -> qX, mul_lt_mul_of_lt_of_le -> qY, eq_of_mul_eq_mul_left -> qZ, or_lt_two_pow -> xA, zero_le -> xB, add_assoc -> xC, and_le_left -> xE, gcd_le_left -> xF, mul_mod_mul_right -> xH
open List renaming replicate -> X, eq_nil_of_length_eq_zero -> V, take_of_length_le -> zI, getD_eq_getElem?_getD -> zP, take_set_of_le -> zS, length_replicate -> zW, take_succ_eq_append_getElem -> zY, drop_drop -> qE, drop_zero -> qF, mem_singleton -> qL, getElem?_eq_none -> qR, length_pos_iff -> qT, replicate_succ -> qU, getElem?_take -> qW, length_eq_zero_iff -> xD, sizeOf_lt_of_mem -> xG, drop -> xK, mem_cons -> xL
open BitVec renaming ofInt -> zH
open SizeOf renaming sizeOf -> zR
open Go.IntKind renaming wrap -> qP
open Sum renaming elim -> xM
open Go.AM.T (Fm Ge UA WC XU Xb Xr bf fB iU j7 pn sX vI vM xi xz yX z8J zw)
namespace Go.AM.PL
def nv:List Int->Nat
 | []=>0
 | x::l=>x.toNat+4294967296*nv l
def qx(l:List Int):Prop:=∀ x∈l,0<=x/\x<4294967296
def vP(n:Nat):List Int:=if h:n=0 then[]else((n % 4294967296:Nat):Int)::vP (n / 4294967296)
termination_by n
decreasing_by omega
theorem gK:vP 0=[]:=by rw[vP]; rfl
theorem XY{n:Nat}(h:n≠0):vP n=((n % 4294967296:Nat):Int)::vP (n / 4294967296):=by rw[vP,dif_neg h]
theorem vH:qx []:=λ_ h=>nomatch h
theorem gT{x:Int}{l:List Int}:qx (x::l)↔(0<=x/\x<4294967296)/\qx l:=by
 unfold qx; simp
theorem U5{a b:List Int}:qx (a++b)↔qx a/\qx b:=by
 unfold qx; simp
 grind
theorem WY{a:List Int}(h:qx a)(n:Nat):qx (a.take n):=λx N=>h x (List.mem_of_mem_take N)
theorem rI{a:List Int}(h:qx a)(n:Nat):qx (a.drop n):=λx N=>h x (List.mem_of_mem_drop N)
theorem vO(n:Nat):qx (X n 0):=λx N=>by
 grind
theorem HR{a:List Int}(h:qx a)(i:Nat){x:Int}(h0:0<=x)(h1:x<4294967296):qx (a.set i x):=λy hy=>by
 rcases List.mem_or_eq_of_mem_set hy with h' | h'
 ·exact h y h'
 ·grind
theorem fq{a:List Int}(h:qx a)(i:Int):0<=nth a i 0/\nth a i 0<4294967296:=by
 unfold nth
 rw[zP]
 cases N:a[i.toNat]? with
 | none=>simp
 | some x=>exact h x (List.mem_of_getElem? N)
theorem wI(n:Nat):qx (vP n):=by
 induction n using zX with
 | _ n ih =>
  by_cases h:n=0
  ·subst h; rw[gK]; exact vH
  ·rw[XY h]
   exact gT.2 ⟨Z,ih _ (Z)⟩
@[simp] theorem z2j:nv []=0:=rfl
@[simp] theorem XW(x:Int)(l:List Int):nv (x::l)=x.toNat+4294967296*nv l:=rfl
@[simp] theorem jj(n:Nat):nv (vP n)=n:=by
 induction n using zX with
 | _ n ih =>
  by_cases h:n=0
  ·subst h; rw[gK]; rfl
  ·rw[XY h,XW,ih _ (Z)]; omega
theorem pz(a b:List Int):nv (a++b)=nv a+4294967296 ^ a.length*nv b:=by
 induction a with
 | nil=>simp
 | cons x a ih=>simp only[List.cons_append,XW,ih,List.length_cons,zF,qO]; rw[<- qJ,zE 4294967296 (4294967296 ^ a.length)]; omega
theorem YU{l:List Int}(h:qx l):nv l<4294967296 ^ l.length:=by
 induction l with
 | nil=>simp
 | cons x l ih =>
  have h':=gT.1 h
  have:=ih h'.2
  simp
  omega
@[simp] theorem z8a(n:Nat):nv (X n 0)=0:=by
 induction n with
 | zero=>rfl
 | succ n ih=>simp[qU,ih]
def UC(l:List Int):Prop:=∀ x,l.getLast? = some x->x≠0
theorem Gq{x:Int}{l:List Int}(h:UC (x::l)):UC l:=by
 cases l with
 | nil=>nofun
 | cons y l=>intro z hz; exact h z (xy)
theorem Lh{l:List Int}(h:qx l)(ht:UC l)(hn:l≠[]):nv l≠0:=by
 induction l with
 | nil=>grind
 | cons x l ih =>
  have h':=gT.1 h
  cases l with
  | nil =>
   have:=ht x rfl
   simp; omega
  | cons y l =>
   have:=ih h'.2 (Gq ht) (qz)
   rw[XW]; omega
theorem CP{l:List Int}(h:qx l)(ht:UC l):vP (nv l)=l:=by
 induction l with
 | nil=>exact gK
 | cons x l ih =>
  have h':=gT.1 h
  have h1:=ih h'.2 (Gq ht)
  rw[XY (Lh h ht (qz)),XW]
  grind
theorem dx{n:Nat}:vP n=[]↔n=0:=by
 constructor
 ·intro h; rw[<- jj n,h]; rfl
 ·rintro rfl; exact gK
theorem YT(l:List Int):nv (l++[0])=nv l:=by simp[pz]
theorem uG{n k:Nat}:(vP n).length<=k↔n<4294967296 ^ k:=by
 induction k generalizing n with
 | zero =>
  simp only[Nat.le_zero_eq,xD,dx]; omega
 | succ k ih =>
  by_cases h:n=0
  ·grind
  ·rw[XY h,List.length_cons,zF,Nat.add_le_add_iff_right,ih]
   grind
theorem Lj{n k:Nat}:k<(vP n).length↔4294967296 ^ k<=n:=by
 have:=uG (n:=n) (k:=k); omega
theorem vL{l:List Int}(h:qx l):(vP (nv l)).length<=l.length:=uG.2 (YU h)
theorem CL{a b:List Int}(i:Int)(h:(a.length:Int)<=i):nth (a++b) i 0=nth b (i-a.length) 0:=by
 unfold nth
 grind
theorem WE(a:List Int)(i:Nat)(h:i<a.length):a.take (i+1)=a.take i++[nth a i 0]:=by
 rw[zY h]; simp[nth,h]
theorem CN{a:List Int}{i:Nat}(h:i<a.length):nv (a.take (i+1))=nv (a.take i)+4294967296 ^ i*(nth a i 0).toNat:=by
 rw[WE a i h,pz]
 have:(a.take i).length=i:=by simp; omega
 simp[this]
theorem nk(a:List Int)(i:Nat)(h:i<=a.length):nv a=nv (a.take i)+4294967296 ^ i*nv (a.drop i):=by
 have:=pz (a.take i) (a.drop i)
 rw[List.take_append_drop]at this
 grind
theorem F4{a:List Int}{i:Nat}(h:i<a.length):nv (a.drop i)=(nth a i 0).toNat+4294967296*nv (a.drop (i+1)):=by
 rw[List.drop_eq_getElem_cons h,XW]; simp[nth,h]
theorem JW{α:Type}(a:List α)(i j:Nat)(x:α)(h:j<=i):(a.set i x).take j=a.take j:=by
 rw[zS h]
theorem WD(a:List Int)(i:Nat)(x:Int)(h:i<a.length):(a.set i x).take (i+1)=a.take i++[x]:=by
 rw[WE _ _ (xy),zS (zJ _)]
 simp[nth,h]
theorem cA(a:List Int)(i:Nat)(x:Int):(a.set i x).drop (i+1)=a.drop (i+1):=by
 rw[List.drop_set_of_lt (Z)]
end Go.AM.PL
namespace Go.AM.T
variable {σ ρ:Type}
theorem cy{r:σ->T (σ⊕ρ)}(hb:σ->Prop)(μ:σ->Nat)(Q:ρ->Prop)
  (h:∀ s,hb s->(∃ s',(r s).run=some (.inl s')/\hb s'/\μ s'<μ s)\/(∃ x,(r s).run=some (.inr x)/\Q x)) {s:σ} (hs:hb s):∃ x,(loop r s).run=some x/\Q x:=by
 generalize hm:μ s=m
 induction m using zX generalizing s with
 | _ m ih =>
  rcases h s hs with⟨s',h1,M,h3⟩ | ⟨x,h1,M⟩
  ·rw[XU h1]
   grind
  ·exact⟨x,pn h1,M⟩
end Go.AM.T
namespace Go.AM.PL
def lm(a:List Int)(i:Nat):Nat:=(nth a (i:Int) 0).toNat
theorem lA{a:List Int}(h:qx a)(i:Nat):lm a i<4294967296:=by have:=fq h i; unfold lm; omega
theorem iJ{a:List Int}(h:qx a)(i:Nat):nth a (i:Int) 0=(lm a i:Int):=by have:=fq h i; unfold lm; omega
theorem oN{a:List Int}(h:qx a)(i:Nat):wj a i 0=(lm a i:Int):=by have:=iJ h i; unfold nth at this; unfold wj; simpa using this
theorem zgF{a:List Int}{i:Nat}(h:a.length<=i):lm a i=0:=by
 unfold lm nth; simp[qR h]
theorem ve(a:List Int)(i:Nat):nv (a.take (i+1))=nv (a.take i)+4294967296 ^ i*lm a i:=by
 by_cases h:i<a.length
 ·exact CN h
 ·rw[zgF (Z),zI (Z),zI (Z)]; simp
theorem gJ{a:List Int}{i:Nat}(h:a.length<=i):nv (a.take i)=nv a:=by rw[zI h]
theorem Jb{a:List Int}{i j:Nat}{x:Int}(h:i<a.length):lm (a.set i x) j=if i=j then x.toNat else lm a j:=by
 unfold lm nth
 grind
theorem CM{a:List Int}{i:Nat}(x:Int)(h:i<a.length):nv (a.set i x)+4294967296 ^ i*lm a i=nv a+4294967296 ^ i*x.toNat:=by
 have h1:=nk (a.set i x) (i+1) (xy)
 have M:=nk a (i+1) (Z)
 rw[cA,WD a i x h,pz]at h1
 rw[ve]at M
 have h3:(a.take i).length=i:=by simp; omega
 rw[h3]at h1
 simp at h1
 omega
theorem sS{a:List Int}{i:Nat}(x:Int)(h:i<a.length):nv ((a.set i x).take (i+1))=nv (a.take i)+4294967296 ^ i*x.toNat:=by
 rw[WD a i x h,pz]
 have h3:(a.take i).length=i:=by simp; omega
 rw[h3]; simp
theorem Fh(i:Nat):0<4294967296 ^ i:=xy
theorem bY{a:List Int}(h:qx a)(i:Nat):nv (a.take i)<4294967296 ^ i:=by
 have:=YU (WY h i)
 have M:(4294967296:Nat) ^ (a.take i).length<=4294967296 ^ i:=zZ (Z) (xy)
 omega
def DT(a b:Nat):Int:=if a<b then -1 else if b<a then 1 else 0
theorem TG{r:Int->T (Int⊕(Unit⊕Int))}(x y:List Int)(N:qx x)(hy:qx y)(R:x.length=y.length)
  (h:∀ i:Nat,i<x.length->(r (i:Int)).run=some (if nth x i 0<nth y i 0 then .inr (.inr (-1))else if nth y i 0<nth x i 0 then .inr (.inr 1)else .inl ((i:Int)-1)))
  (h0:(r (-1)).run=some (.inr (.inl ()))):(T.loop r ((x.length:Int)-1)).run=some (if nv x<nv y then .inr (-1)else if nv y<nv x then .inr 1 else .inl ()):=by
 have key:∀ n:Nat,n<=x.length->(T.loop r ((n:Int)-1)).run=some (if nv (x.take n)<nv (y.take n)then .inr (-1)else if nv (y.take n)<nv (x.take n)then .inr 1 else .inl ()):=by
  intro n
  induction n with
  | zero=>intro _; simpa using pn h0
  | succ n ih =>
   intro hn
   have e1:((n+1:Nat):Int)-1=(n:Int):=Z
   rw[e1]
   have hr:=h n (Z)
   rw[iJ N,iJ hy]at hr
   have a1:=bY N n
   have a2:=bY hy n
   rw[ve,ve]
   rcases Nat.lt_trichotomy (lm x n) (lm y n)with c | c | c
   ·have hm:=zK (4294967296 ^ n) (show lm x n+1<=lm y n by omega)
    rw[qO]at hm
    rw[if_pos (Z)]at hr
    rw[if_pos (Z)]
    exact pn hr
   ·rw[if_neg (Z),if_neg (Z)]at hr
    rw[XU hr,ih (Z),c]
    simp
   ·have hm:=zK (4294967296 ^ n) (show lm y n+1<=lm x n by omega)
    rw[qO]at hm
    rw[if_neg (Z),if_pos (Z)]at hr
    rw[if_neg (Z),if_pos (Z)]
    exact pn hr
 have:=key x.length (zJ _)
 rw[List.take_length]at this
 rw[R,List.take_length,<- R]at this
 exact this
theorem Ja{A hI:Nat}(h:(vP A).length<(vP hI).length):A<hI:=by
 have h1:=uG.1 (zJ (vP A).length)
 have M:=Lj.1 h
 omega
end Go.AM.PL
namespace Go.AM.PL
theorem Dd(n:Nat)(h:n<18446744073709551616):qP .u64 (n:Int)=n:=gN (Z) (Z)
theorem Qe(n:Nat)(h:n<4294967296):qP .u32 (n:Int)=n:=Py (Z) (Z)
theorem lC{n:Nat}(h:n<18446744073709551616):wi (n:Int)=n:=gN (Z) (Z)
theorem K2{n:Nat}(h:n<4294967296):gM (n:Int)=n:=Py (Z) (Z)
theorem kc{a:List Int}(h:qx a)(i:Nat){n:Nat}(h1:n<4294967296):qx (a.set i (n:Int)):=HR h i (Z) (Z)
theorem DE{x y:Nat}(N:x<4294967296)(hy:y<4294967296):GM .u32 (x:Int) (y:Int)=((x &&& y:Nat):Int):=by
 show qP .u32 (((zH 32 (x:Int) &&& zH 32 (y:Int)).toNat:Nat):Int)=_
 have e:(zH 32 (x:Int) &&& zH 32 (y:Int)).toNat=x &&& y:=by
  grind
 rw[e]
 exact Qe _ (zG xE N)
theorem KC{x y:Nat}(N:x<4294967296)(hy:y<4294967296):H7 .u32 (x:Int) (y:Int)=((x ||| y:Nat):Int):=by
 show qP .u32 (((zH 32 (x:Int) ||| zH 32 (y:Int)).toNat:Nat):Int)=_
 have e:(zH 32 (x:Int) ||| zH 32 (y:Int)).toNat=x ||| y:=by
  grind
 rw[e]
 exact Qe _ (xA (n:=32) N hy)
theorem Gv{x y:Nat}(N:x<4294967296)(hy:y<4294967296):LY .u32 (x:Int) (y:Int)=((x ^^^ y:Nat):Int):=by
 show qP .u32 (((zH 32 (x:Int) ^^^ zH 32 (y:Int)).toNat:Nat):Int)=_
 have e:(zH 32 (x:Int) ^^^ zH 32 (y:Int)).toNat=x ^^^ y:=by
  grind
 rw[e]
 exact Qe _ (qM (n:=32) N hy)
theorem z8t{x y:Nat}(N:x<18446744073709551616)(hy:y<18446744073709551616):H7 .u64 (x:Int) (y:Int)=((x ||| y:Nat):Int):=by
 show qP .u64 (((zH 64 (x:Int) ||| zH 64 (y:Int)).toNat:Nat):Int)=_
 have e:(zH 64 (x:Int) ||| zH 64 (y:Int)).toNat=x ||| y:=by
  grind
 rw[e]
 exact Dd _ (xA (n:=64) N hy)
theorem Lm(x y m:Nat)(hy:y<2 ^ m):x*2 ^ m ||| y=x*2 ^ m+y:=by
 have:=Nat.shiftLeft_add_eq_or_of_lt hy x
 rw[Nat.shiftLeft_eq]at this
 grind
theorem zkS{x:Int}(h0:0<=x)(h1:x<4294967296):Za .u64 x 32=x*4294967296:=by
 have e:Za .u64 x 32=wi (x*4294967296):=rfl
 rw[e,gN (Z) (Z)]
theorem zna{x y:Int}(h0:0<=x)(h1:x<4294967296)(M:0<=y)(h3:y<4294967296):H7 .u64 (Za .u64 x 32) (wi y)=x*4294967296+y:=by
 rw[zkS h0 h1,gN M (Z)]
 obtain⟨a,rfl⟩:=qN h0
 obtain⟨b,rfl⟩:=qN M
 have e:=z8t (x:=a*4294967296) (y:=b) (Z) (Z)
 rw[Lm a b 32 (xy)]at e
 grind
theorem z0M{x y:Int}(h0:0<=x)(h1:x<4294967296)(M:0<=y)(h3:y<4294967296):H7 .u64 (Za .u64 x 32) y=x*4294967296+y:=by
 have:=zna h0 h1 M h3
 rwa [gN M (Z)]at this
theorem za9{x:Int}(h0:0<=x):jk .u64 x 32=x / 4294967296:=by
 show Int.fdiv x 4294967296=_
 grind
theorem Xz{x y:Int}(h:0<=x):xI x y=x / y:=xy
theorem XA{x y:Int}(h:0<=x):xJ x y=x % y:=xy
theorem ze6{v:Nat}(h:v<4294967296):v / 2147483648=if v.testBit 31=true then 1 else 0:=xy
theorem Ik{v:Nat}(h:v<4294967296):v.testBit 31=decide (2147483648<=v):=xy
theorem zkV{x y b:Nat}(N:x<4294967296)(hy:y<4294967296)(I:b<=1) :
  gM (gM ((x:Int)-y)-b)=(((x+4294967296*(if x<y+b then 1 else 0))-y-b:Nat):Int):=by
 rw[Zf,Zf]
 grind
theorem Tw{x y b d:Nat}(N:x<4294967296)(hy:y<4294967296)(I:b<=1)(J:d=(x+4294967296*(if x<y+b then 1 else 0))-y-b) :
  jk .u32 (H7 .u32 (GM .u32 (LY .u32 (4294967295:Int) x) y) (GM .u32 (LY .u32 (4294967295:Int) (LY .u32 x y)) (d:Int))) 31=if x<y+b then 1 else 0:=by
 have Es:d<4294967296:=by rw[J]; split<;>omega
 have e1:=Gv (x:=4294967295) (y:=x) (Z) N
 have h1:4294967295 ^^^ x<4294967296:=qM (n:=32) (Z) N
 have e2:=DE h1 hy
 have M:(4294967295 ^^^ x) &&& y<4294967296:=zG xE h1
 have e3:=Gv N hy
 have h3:x ^^^ y<4294967296:=qM (n:=32) N hy
 have e4:=Gv (x:=4294967295) (y:=x ^^^ y) (Z) h3
 have h4:4294967295 ^^^ (x ^^^ y)<4294967296:=qM (n:=32) (Z) h3
 have e5:=DE h4 Es
 have h5:(4294967295 ^^^ (x ^^^ y)) &&& d<4294967296:=zG xE h4
 have e6:=KC M h5
 have h6:=xA (n:=32) M h5
 have ec:(4294967295:Int)=((4294967295:Nat):Int):=rfl
 rw[ec,e1,e2,e3,e4,e5,e6]
 show Int.fdiv _ 2147483648=_
 rw[Int.fdiv_eq_ediv_of_nonneg _ (Z)]
 have e7:=ze6 h6
 have e8:(((((4294967295 ^^^ x) &&& y) ||| ((4294967295 ^^^ (x ^^^ y)) &&& d):Nat):Int)) / 2147483648=(((((4294967295 ^^^ x) &&& y) ||| ((4294967295 ^^^ (x ^^^ y)) &&& d)) / 2147483648:Nat):Int):=Z
 rw[e8,e7]
 have t1:(4294967295:Nat).testBit 31=true:=xn
 simp only[Nat.testBit_or,Nat.testBit_and,Nat.testBit_xor,t1,Ik N,Ik hy,Ik Es]
 by_cases c:x<y+b
 ·rw[if_pos c]at J ⊢
  by_cases p:2147483648<=x<;>by_cases q:2147483648<=y<;>by_cases r:2147483648<=d<;>simp[p,q,r]<;>omega
 ·rw[if_neg c]at J ⊢
  by_cases p:2147483648<=x<;>by_cases q:2147483648<=y<;>by_cases r:2147483648<=d<;>simp[p,q,r]<;>omega
end Go.AM.PL
namespace Go.AM.PL
def dgt(n:Nat):UInt8:=UInt8.ofNat (48+n % 10)
def dgz(n:Nat):zx:=if h:n=0 then[]else dgz (n / 10)++[dgt n]
termination_by n
decreasing_by omega
def pr(n:Nat):zx:=if n=0 then[48]else dgz n
theorem TR:dgz 0=[]:=by rw[dgz]; rfl
theorem z5g{n:Nat}(h:n≠0):dgz n=dgz (n / 10)++[dgt n]:=by rw[dgz,dif_neg h]
def rd(n:Nat):List Int:=if h:n=0 then[]else((48+n % 10:Nat):Int)::rd (n / 10)
termination_by n
decreasing_by omega
theorem W8:rd 0=[]:=by rw[rd]; rfl
theorem G7{n:Nat}(h:n≠0):rd n=((48+n % 10:Nat):Int)::rd (n / 10):=by rw[rd,dif_neg h]
def Q4:Nat->Nat->List Int
 | 0,_=>[]
 | k+1,n=>((48+n % 10:Nat):Int)::Q4 k (n / 10)
theorem Fi(k n:Nat):(Q4 k n).length=k:=by
 induction k generalizing n with
 | zero=>rfl
 | succ k ih=>simp[Q4,ih]
theorem z2L(k n:Nat):Q4 k (n % 10 ^ k)=Q4 k n:=by
 induction k generalizing n with
 | zero=>rfl
 | succ k ih =>
  simp only[Q4]
  have e1:n % 10 ^ (k+1) % 10=n % 10:=Nat.mod_mod_of_dvd _ ⟨10 ^ k,by rw[zF,zE]⟩
  have e2:n % 10 ^ (k+1) / 10=n / 10 % 10 ^ k:=by rw[zF,zE,Nat.mod_mul_right_div_self]
  rw[e1,e2,ih]
theorem z2J(k n:Nat)(h:n / 10 ^ k≠0):rd n=Q4 k n++rd (n / 10 ^ k):=by
 induction k generalizing n with
 | zero=>simp[Q4]
 | succ k ih =>
  have hn:n≠0:=by intro z; subst z; simp at h
  have e:n / 10 ^ (k+1)=n / 10 / 10 ^ k:=by rw[zF,zE,qQ]
  rw[e]at h ⊢
  rw[G7 hn,ih _ h]; rfl
theorem Lv(k n:Nat)(h:n / 10 ^ k=0):∃ z,Q4 k n=rd n++X z 48:=by
 induction k generalizing n with
 | zero=>simp at h; subst h; exact⟨0,by rw[W8]; rfl⟩
 | succ k ih =>
  have e:n / 10 ^ (k+1)=n / 10 / 10 ^ k:=by rw[zF,zE,qQ]
  rw[e]at h
  obtain⟨z,hz⟩:=ih _ h
  simp only[Q4]
  by_cases hn:n=0
  ·subst hn
   refine⟨z+1,?_⟩
   rw[hz]
   simp[W8,qU]
  ·exact⟨z,by rw[hz,G7 hn]; rfl⟩
def blk(n:Nat):List Int:=if h:n=0 then[]else Q4 9 (n % 1000000000)++blk (n / 1000000000)
termination_by n
decreasing_by omega
theorem QI:blk 0=[]:=by rw[blk]; rfl
theorem Kk{n:Nat}(h:n≠0):blk n=Q4 9 (n % 1000000000)++blk (n / 1000000000):=by rw[blk,dif_neg h]
theorem Tv(n:Nat):∃ z,blk n=rd n++X z 48:=by
 induction n using zX with
 | _ n ih =>
  by_cases hn:n=0
  ·subst hn; exact⟨0,by rw[QI,W8]; rfl⟩
  ·rw[Kk hn]
   have e:Q4 9 (n % 1000000000)=Q4 9 n:=z2L 9 n
   rw[e]
   by_cases h:n / 1000000000=0
   ·rw[h,QI,List.append_nil]
    exact Lv 9 n h
   ·obtain⟨z,hz⟩:=ih (n / 1000000000) (Z)
    refine⟨z,?_⟩
    rw[hz,<- List.append_assoc]
    congr 1
    exact(z2J 9 n h).symm
theorem TQ(n:Nat):dgz n=kA (rd n).reverse:=by
 induction n using zX with
 | _ n ih =>
  by_cases hn:n=0
  ·subst hn; rw[TR,W8]; rfl
  ·rw[z5g hn,G7 hn,ih _ (Z)]
   simp only[List.reverse_cons,kA,List.map_append,List.map_cons,List.map_nil]
   congr 1
theorem za6{n:Nat}(h:n≠0):rd n≠[]:=by rw[G7 h]; simp
theorem z8D(n:Nat):∀ x,(rd n).getLast? = some x->x≠48:=by
 induction n using zX with
 | _ n ih =>
  intro x N
  by_cases hn:n=0
  ·subst hn; rw[W8]at N; cases N
  ·rw[G7 hn]at N
   by_cases M:n / 10=0
   ·rw[M,W8]at N
    simp at N; omega
   ·refine ih (n / 10) (Z) x ?_
    rw[<- N]
    cases hc:rd (n / 10)with
    | nil=>exact absurd hc (za6 M)
    | cons y l=>rw[List.getLast?_cons_cons]
end Go.AM.PL
namespace Go.AM.PL
theorem Y8(q a b c:Nat):q*(a*c+b)=(q*a)*c+q*b:=xy
theorem TS(a b:Nat):(a+1)*b=a*b+b:=xy
theorem zaZ(a b c:Nat):(a+b)*c=a*c+b*c:=xy
theorem El{u2 u1 u0 v1 v2 q r:Nat}(hr:q*v1+r=u2*4294967296+u1)(h:q*v2<=r*4294967296+u0) :
  q*(v1*4294967296+v2)<=u2*18446744073709551616+u1*4294967296+u0:=by
 rw[Y8]
 generalize q*v1=x at *
 generalize q*v2=y at *
 omega
theorem z09{u2 u1 u0 v1 v2 q r:Nat}(hr:q*v1+r=u2*4294967296+u1)(h:r*4294967296+u0<q*v2) :
  u2*18446744073709551616+u1*4294967296+u0<q*(v1*4294967296+v2):=by
 rw[Y8]
 generalize q*v1=x at *
 generalize q*v2=y at *
 grind
theorem z0a{oE zD q:Nat}(hV:0<zD)(h:oE<q*zD):oE / zD<q:=(zM hV).2 h
theorem IH{u2 u1 u0 v1 v2:Nat}(hv:0<v1)(hu0:u0<4294967296):(u2*18446744073709551616+u1*4294967296+u0) / (v1*4294967296+v2)<=(u2*4294967296+u1) / v1:=by
 rw[zN hv]
 have h:=qV (u2*18446744073709551616+u1*4294967296+u0) (v1*4294967296+v2)
 generalize (u2*18446744073709551616+u1*4294967296+u0) / (v1*4294967296+v2)=q at *
 have e:=Y8 q v1 v2 4294967296
 rw[e]at h; omega
theorem Rz{u2 u1 u0 v1 v2:Nat}(hv:2147483648<=v1)(EE:v2<4294967296)(h:u2*18446744073709551616+u1*4294967296+u0<(v1*4294967296+v2+1)*4294967296) :
  (u2*4294967296+u1)<=v1*4294967296+v2/\(u2*4294967296+u1) / v1<=4294967297:=by
 have h1:u2*4294967296+u1<=v1*4294967296+v2:=Z
 refine⟨h1,?_⟩
 rw[Nat.div_le_iff_le_mul (Z)]
 omega
theorem MG{oE zD D U3 V2 zC zB q:Nat}(hU:oE=U3*D+zC)(hX:zC<D)(hV:zD=V2*D+zB)(hY:zB<D)(hVt:2147483648*4294967296<=V2)(hUV:oE<zD*4294967296)(hq:q=min (U3 / V2) 4294967295) :
  oE / zD<=q/\q<=oE / zD+1:=by
 have hD:0<D:=Z
 have hV2:0<V2:=Z
 have hVp:0<zD:=by rw[hV]; have:=Nat.mul_pos hV2 hD; omega
 constructor
 ·rw[hq,Nat.le_min]
  constructor
  ·rw[zN hV2]
   have h:=qV oE zD
   generalize oE / zD=z at *
   rw[hV,hU]at h
   have e:=Y8 z V2 zB D
   rw[e]at h
   have M:(z*V2)*D<(U3+1)*D:=by 
    rw[TS]
    generalize z*V2*D=m at *
    generalize z*zB=m2 at *
    omega
   exact Nat.lt_succ_iff.1 (zU M)
  ·have:oE / zD<4294967296:=(zM hVp).2 (by rw[zE]; exact hUV)
   omega
 ·have h3:q<=U3 / V2:=Z
  have h4:q<=4294967295:=Z
  have h5:q*V2<=U3:=(zN hV2).1 h3
  cases q with
  | zero=>exact xB _
  | succ q =>
   have:q<=oE / zD:=by
    rw[zN hVp,hV,hU]
    have e:=Y8 q V2 zB D
    have e2:=TS q V2
    have h6:(q*V2+V2)*D<=U3*D:=Y D (Z)
    have e3:=zaZ (q*V2) V2 D
    have h7:q*zB<=4294967295*D:=qX (Z) (Z)
    have h8:4294967295*D<=V2*D:=Y D (Z)
    rw[e]; omega
   omega
end Go.AM.PL
namespace Go.AM.Lf
open PL
@[simp] theorem bp:zb (.int .u32)=(0:Int):=rfl
theorem F3(l:List Int)(x:Int):nth (l++[x]) ((l++[x]).length-1:Int) 0=x:=by
 rw[CL _ (qz)]; simp[nth]
theorem bG(a:List Int)(h:qx a)(R:a.length<=4000000000):(vY a).run=some (vP (nv a)):=by
 have key:(Xj a).run=some (vP (nv a)):=by
  unfold Xj
  refine Xb (λa=>qx a/\a.length<=4000000000) (λa=>a.length) (λa=>vP (nv a)) ?_ ⟨h,R⟩
  rintro s ⟨h1,M⟩
  rcases List.eq_nil_or_concat s with rfl | ⟨l,x,rfl⟩
  ·right; simp[sR,ZS,gK]
  ·rw[List.concat_eq_append]at *
   have N:=F3 l x
   have hlen:(l++[x]).length=l.length+1:=qz
   have hw:qi (((l++[x]).length:Int)-1)=((l++[x]).length:Int)-1:=qp (Z) (Z)
   have hIs:(ZS (l++[x])).run=some (x != 0):=by
    unfold ZS
    rw[xi]
    ·simp only[hw,bp,N,xz]
     congr 1
     have:(((l++[x]).length:Int)==0)=false:=by simp; omega
     rw[this]; rfl
    ·intro _; rw[hw]; exact⟨Z,Z⟩
   unfold sR
   rw[zw hIs]
   by_cases Kv:x=0
   ·left
    subst Kv
    refine⟨l,?_,⟨(U5.1 h1).1,Z⟩,Z,by rw[YT]⟩
    have hc:jJ (e:=.int .u32) 0 (((l++[(0:Int)]).length:Int)-1) (l++[0])=l:=by
     unfold jJ; simp
    rw[hw,hc]
    simp only[bne_self_eq_false,Bool.not_false,UA]
    rw[Xr _ (Z) (Z) (Z),xz]
   ·right
    have I:(x != 0)=true:=by simpa using Kv
    rw[I]
    simp only[Bool.not_true,WC,xz]
    rw[CP h1]
    intro y hy
    simp at hy; omega
 unfold vY
 rw[zw key,xz]
theorem Rj(a:List Int)(R:a.length<=4000000000):(yg a).run=some a:=by
 unfold yg
 rw[xi]
 ·cases a with
  | nil=>simp
  | cons x a=>simp only[List.length_cons]at R; simp(disch:=omega)
 ·rintro rfl r hr
  first
  | simpa[T.leads]using hr
  | (obtain⟨_,_,hr⟩:=hr; simpa[T.leads]using hr)
theorem tG(a:List Int)(h:qx a)(R:a.length<=4000000000):(iF a).run=some (vP (nv a)):=by
 unfold iF
 rw[zw (bG a h R),zw (Rj _ (zQ (vL h) R)),xz]
theorem V8(n:Nat)(h:n<18446744073709551616):(iA (n:Int)).run=some (vP n):=by
 have e2:gM (jk .u64 (n:Int) 32)=((n / 4294967296:Nat):Int):=by rw[za9 (Z),Zf]; omega
 have e1:gM (n:Int)=((n % 4294967296:Nat):Int):=by rw[Zf]; omega
 have h1:qx [((n % 4294967296:Nat):Int),((n / 4294967296:Nat):Int)]:=by
  intro x N; simp only[xL,List.not_mem_nil,or_false]at N; rcases N with rfl | rfl<;>omega
 have M:=bG _ h1 (qz)
 have h3:nv [((n % 4294967296:Nat):Int),((n / 4294967296:Nat):Int)]=n:=by simp only[XW,z2j]; omega
 unfold iA
 rw[iU _ (Z),e1,e2,zw M,h3,xz]
theorem JJ(a b:List Int)(ha:qx a)(I:qx b)(la:a.length<=1000000000)(lb:b.length<=1000000000):(sP a b).run=some (DT (nv a) (nv b)):=by
 unfold sP
 rw[zw (bG a ha (Z)),zw (bG b I (Z))]
 have qa:=vL ha
 have qb:=vL I
 generalize nv a=A at *
 generalize nv b=hI at *
 by_cases R:(vP A).length=(vP hI).length
 ·rw[R,bne_self_eq_false,WC]
  have key:=TG (r:=rK (vP A) (vP hI)) (vP A) (vP hI) (wI A) (wI hI) R (λi hi => ?_) ?_
  ·rw[<- R,qp (Z) (Z)]
   unfold YR
   rw[zw key,jj,jj]
   unfold DT
   by_cases p:A<hI
   ·simp[p]
   ·by_cases q:hI<A<;>simp[p,q]
  ·have e:qi ((i:Int)-1)=(i:Int)-1:=qp (Z) (Z)
   unfold rK
   have Kt:i<(vP hI).length:=Z
   have x1:=iJ (wI A) i
   have x2:=iJ (wI hI) i
   rcases Nat.lt_trichotomy (lm (vP A) i) (lm (vP hI) i)with c | c | c
   ·have c2:¬ (lm (vP A) i=lm (vP hI) i):=Z
    simp(disch:=omega) [e,x1,x2,c,c2,hi,Kt]<;>omega
   ·simp(disch:=omega) [e,x1,x2,c,hi,Kt]
   ·have c2:¬ (lm (vP A) i=lm (vP hI) i):=Z
    have c3:¬ (lm (vP A) i<lm (vP hI) i):=Z
    simp(disch:=omega) [e,x1,x2,c,c2,c3,hi,Kt]<;>omega
  ·simp[rK]
 ·rw[vI (by simp; omega)]
  unfold DT
  by_cases c:(vP A).length<(vP hI).length
  ·have:=Ja c
   simp[c,this]
  ·have M:=Ja (show(vP hI).length<(vP A).length by omega)
   have h3:¬ A<hI:=Z
   simp[c,M,h3]
theorem z1f(n:Nat):gM (n:Int)=((n % 4294967296:Nat):Int):=by rfl
theorem Ey(n:Nat):jk .u64 (n:Int) 32=((n / 4294967296:Nat):Int):=by rw[za9 (Z)]; omega
theorem i1(i:Nat)(h:i<=4000000000):qi ((i:Int)+1)=((i+1:Nat):Int):=by rw[qp (Z) (Z)]; omega
theorem im1(i:Nat)(h:i<=4000000000):qi (((i+1:Nat):Int)-1)=(i:Int):=by rw[qp (Z) (Z)]; omega
theorem Jg{x y:Nat}(N:x<4294967296)(hy:y<4294967296):x*y<=18446744065119617025:=qX (show x<=4294967295 by omega) (show y<=4294967295 by omega)
theorem mf(xs:List Int)(i:Nat)(x:Int)(j:Nat)(h:i≠j):lm (xs.set i x) j=lm xs j:=by
 by_cases hi:i<xs.length
 ·rw[Jb hi,if_neg h]
 ·rw[List.set_eq_of_length_le (Z)]
theorem Kx{a:List Int}{i:Nat}(h:i<a.length):nv (a.drop i)=lm a i+4294967296*nv (a.drop (i+1)):=F4 h
theorem set_drop{a:List Int}{i:Nat}(x:Int)(h:i<a.length):nv ((a.set i x).drop i)=x.toNat+4294967296*nv (a.drop (i+1)):=by
 rw[Kx (xy),cA,Jb h,if_pos rfl]
theorem Ro{hi lo y:Nat}(h0:hi<y)(h1:lo<4294967296)(M:y<4294967296) :
  (eJ (hi:Int) (lo:Int) (y:Int)).run=some ((((hi*4294967296+lo) / y:Nat):Int),(((hi*4294967296+lo) % y:Nat):Int)):=by
 have e1:=z0M (x:=(hi:Int)) (y:=(lo:Int)) (Z) (Z) (Z) (Z)
 have ey:wi (y:Int)=y:=gN (Z) (Z)
 have eh:wi (hi:Int)=hi:=gN (Z) (Z)
 have el:wi (lo:Int)=lo:=gN (Z) (Z)
 have hq:(hi*4294967296+lo) / y<4294967296:=by
  rw[zM (Z)]
  grind
 have hr:(hi*4294967296+lo) % y<y:=zV _ (Z)
 have e2:(hi:Int)*4294967296+(lo:Int)=((hi*4294967296+lo:Nat):Int):=Z
 have e3:xI ((hi*4294967296+lo:Nat):Int) (y:Int)=(((hi*4294967296+lo) / y:Nat):Int):=by rw[Xz (Z)]; rfl
 have e4:xJ ((hi*4294967296+lo:Nat):Int) (y:Int)=(((hi*4294967296+lo) % y:Nat):Int):=by rw[XA (Z)]; rfl
 unfold eJ
 rw[j7 (xy)]
 simp only[ey,eh,el,e1,e2,e3,e4]
 rw[iU _ (Z),sX _ (Z),sX _ (Z),xz,lC (Z),K2 hq,K2 (Z)]
theorem LG{A Q r y l q:Nat}(h:A=Q*y+r)(hq:q=(r*4294967296+l) / y):l+4294967296*A=(q+4294967296*Q)*y+(r*4294967296+l) % y:=by
 have:=qC (r*4294967296+l) y
 grind
theorem WA(a:List Int)(ha:qx a)(la:a.length<=1000000000)(y:Nat)(h0:0<y)(h1:y<4294967296):(pw a (y:Int)).run=some (vP (nv a / y),((nv a % y:Nat):Int)):=by
 have loop:∃ r:Int×List Int,(Uh a (y:Int) (0,(a.length:Int)-1,X a.length 0)).run=some r/\∃ m:Nat,r.1=(m:Int)/\m<y/\qx r.2/\r.2.length=a.length/\nv a=nv r.2*y+m:=by
  refine T.cy (λs:Int×Int×List Int=>∃ (m i:Nat),s.1=(m:Int)/\s.2.1=(i:Int)-1/\m<y/\i<=a.length/\qx s.2.2/\s.2.2.length=a.length/\nv (a.drop i)=nv (s.2.2.drop i)*y+m)
   (λs=>(s.2.1+1).toNat) _ ?_ ⟨0,a.length,rfl,rfl,h0,zJ _,vO _,qz,qz⟩
  rintro⟨_,_,xs⟩ ⟨m,i,rfl,rfl,hm,hi,R,hn,hv⟩
  simp only at R hn hv ⊢
  cases i with
  | zero =>
   right
   refine⟨((m:Int),xs),?_,m,rfl,hm,R,hn,by simpa using hv⟩
   unfold oL
   simp
  | succ i =>
   left
   have N:=lA ha i
   have e1:((i+1:Nat):Int)-1=(i:Int):=Z
   have J:=Ro hm N h1
   have hq:(m*4294967296+lm a i) / y<4294967296:=by
    rw[zM (Z)]
    grind
   have ei:qi ((i:Int)-1)=(i:Int)-1:=qp (Z) (Z)
   refine⟨((((m*4294967296+lm a i) % y:Nat):Int),(i:Int)-1,xs.set i (((m*4294967296+lm a i) / y:Nat):Int)),?_,⟨_,i,rfl,rfl,zV _ h0,Z,kc R _ hq,by simpa using hn,?_⟩,qz⟩
   ·unfold oL
    simp only[e1,bp,iJ ha,Fm,ei]
    rw[if_pos (qz),vM _ (Z) (Z),zw J]
    simp(disch:=omega) [hn]
   ·simp only
    rw[Kx (Z),set_drop _ (Z),zA]
    exact LG hv rfl
 obtain⟨⟨_,xs⟩,hr,m,rfl,hm,R,hn,hv⟩:=loop
 simp only at R hn hv
 unfold pw
 rw[qp (Z) (Z)]
 simp only[zA,zW]
 rw[T.run_mk _ (Z) (Z) (Z) (Z),bf _ rfl rfl rfl,xi rfl,zw hr]
 simp only[Nat.zero_add,qF,List.take_length]
 have e1:nv a / y=nv xs:=by rw[hv,zE,Nat.mul_add_div h0,qI hm,qH]
 have e2:nv a % y=m:=by rw[hv,zE,Nat.mul_add_mod,qS hm]
 rw[xi rfl,zw (bG xs R (Z)),xz,e1,e2]
theorem LC{v s:Nat}(hv:v<4294967296)(hs:s<=32):Za .u64 (v:Int) (s:Int)=((v*2 ^ s:Nat):Int):=by
 have h1:2 ^ s<=2 ^ 32:=zZ (Z) hs
 have M:v*2 ^ s<=4294967295*4294967296:=qX (Z) h1
 have e:min (s:Int).toNat 64=s:=by simp; omega
 show wi ((v:Int)*2 ^ (min (s:Int).toNat 64))=_
 rw[e]
 have e2:(v:Int)*2 ^ s=((v*2 ^ s:Nat):Int):=qz
 rw[e2,lC (Z)]
theorem zd0{v s:Nat}(hs:s<=64):jk .u64 (v:Int) (s:Int)=((v / 2 ^ s:Nat):Int):=by
 show Int.fdiv (v:Int) (2 ^ (min (s:Int).toNat 64))=_
 grind
theorem zcN{h m s:Nat}(hh:h<2 ^ s):h ||| m*2 ^ s=h+m*2 ^ s:=by rw[Nat.or_comm,Lm m h s hh,qG]
theorem F2(v s:Nat)(hs:s<=32):v*2 ^ s % 4294967296=(v % 2 ^ (32-s))*2 ^ s:=by
 have e:(4294967296:Nat)=2 ^ (32-s)*2 ^ s:=by rw[<- qA]; rw[show 32-s+s=32 by omega]
 rw[e,xH]
theorem RY{h v s:Nat}(hh:h<2 ^ s)(hv:v<4294967296)(hs:s<32) :
  H7 .u32 (h:Int) (gM ((v*2 ^ s:Nat):Int))=((h+v*2 ^ s % 4294967296:Nat):Int)/\h+v*2 ^ s % 4294967296<4294967296/\v*2 ^ s / 4294967296<2 ^ s:=by
 have e1:=F2 v s (Z)
 have e2:(v % 2 ^ (32-s))*2 ^ s+2 ^ s<=4294967296:=by
  have:v % 2 ^ (32-s)+1<=2 ^ (32-s):=zV _ (zT (Z))
  have:=Y (2 ^ s) this
  rw[<- qA,show 32-s+s=32 by omega]at this
  grind
 refine⟨?_,xy,?_⟩
 ·rw[z1f,KC (Z) (Z),e1,zcN hh]
 ·rw[zM (Z),zE]
  exact Nat.mul_lt_mul_of_pos_left hv (zT (Z))
theorem EI{zC h P zD v t A:Nat}(hv:zC+h*P=zD*t)(hA:A=v*t):zC+P*(h+A % 4294967296)+A / 4294967296*(P*4294967296)=(zD+P*v)*t:=by
 have e:A=A % 4294967296+4294967296*(A / 4294967296):=Z
 grind
theorem HQ(a:List Int)(ha:qx a)(la:a.length<=1000000000)(s n:Nat)(hs:s<32)(Yg:a.length<=n)(Co:n<=a.length+1)(GS:nv a*2 ^ s<4294967296 ^ n) :
  ∃ r,(JL (s:Int) (n:Int) a (a.length:Int) (0,X n 0)).run=some r/\qx r/\r.length=n/\nv r=nv a*2 ^ s:=by
 refine T.cy (λz:Int×List Int=>∃ i h:Nat,z.1=(i:Int)/\i<=a.length/\qx z.2/\z.2.length=n/\h<2 ^ s/\(i<n->lm z.2 i=h)/\nv (z.2.take i)+h*4294967296 ^ i=nv (a.take i)*2 ^ s)
  (λz=>a.length-z.1.toNat) _ ?_ ⟨0,0,rfl,Z,vO _,qz,zT (Z),λ_ => ?_,qz⟩
 ·rintro⟨_,xs⟩ ⟨i,h,rfl,hi,R,hn,hh,hli,hv⟩
  simp only at R hn hli hv ⊢
  by_cases wM:i<a.length
  ·left
   have N:=lA ha i
   obtain⟨s1,s2,s3⟩:=RY hh N hs
   have I:wi (lm a i:Int)=lm a i:=lC (Z)
   have hlx:=hli (Z)
   have hp:2 ^ s<=2 ^ 31:=zZ (Z) (Z)
   have e2:gM ((lm a i*2 ^ s / 4294967296:Nat):Int)=((lm a i*2 ^ s / 4294967296:Nat):Int):=K2 (Z)
   by_cases J4:i+1<n
   all_goals have zfR:((i:Int)+1<(n:Int))↔(i+1<n):=Z
   ·refine⟨(((i+1:Nat):Int),(xs.set i ((h+lm a i*2 ^ s % 4294967296:Nat):Int)).set (i+1) ((lm a i*2 ^ s / 4294967296:Nat):Int)),?_,
     ⟨i+1,lm a i*2 ^ s / 4294967296,rfl,Z,kc (kc R _ s2) _ (Z),by simpa using hn,s3,λ_ => ?_,?_⟩,by simp; omega⟩
    ·unfold ni
     simp only[bp,iJ ha,zA,Nat.zero_add,oN R,I,LC N (show s<=32 by omega),hlx,s1,i1 i (Z),Ey,e2]
     simp(disch:=omega) [wM,hn,J4,zfR]
    ·simp only
     rw[Jb (by simp; omega),if_pos rfl,zA]
    ·simp only
     rw[JW _ _ _ _ (zJ _),sS _ (Z),ve,zA,zF]
     exact EI hv rfl
   ·refine⟨(((i+1:Nat):Int),xs.set i ((h+lm a i*2 ^ s % 4294967296:Nat):Int)),?_,
     ⟨i+1,lm a i*2 ^ s / 4294967296,rfl,Z,kc R _ s2,by simpa using hn,s3,λ_=>Z,?_⟩,by simp; omega⟩
    ·unfold ni
     simp only[bp,iJ ha,zA,Nat.zero_add,oN R,I,LC N (show s<=32 by omega),hlx,s1,i1 i (Z),Ey,e2]
     simp(disch:=omega) [wM,hn,J4,zfR]
    ·simp only
     rw[sS _ (Z),ve,zA,zF]
     exact EI hv rfl
  ·right
   have:i=a.length:=Z
   subst this
   refine⟨xs,?_,R,hn,?_⟩
   ·unfold ni
    simp
   ·rw[List.take_length]at hv
    by_cases q:n=a.length
    ·rw[gJ (Z)]at hv
     rcases qB h with z | z
     ·grind
     ·have:=Y (4294967296 ^ a.length) z
      grind
    ·have kf:n=a.length+1:=Z
     have:=ve xs a.length
     rw[gJ (Z),hli (Z),zE]at this
     omega
 ·show lm (X n 0) 0=0
  unfold lm nth
  cases n<;>simp[qU]
theorem CF(a:List Int)(ha:qx a)(la:a.length<=1000000000)(s n:Nat)(hs:s<32)(Yg:a.length<=n)(Co:n<=a.length+1)(GS:nv a*2 ^ s<4294967296 ^ n) :
  ∃ r,(Uf a (s:Int) (n:Int)).run=some r/\qx r/\r.length=n/\nv r=nv a*2 ^ s:=by
 obtain⟨r,h1,M,h3,h4⟩:=HQ a ha la s n hs Yg Co GS
 refine⟨r,?_,M,h3,h4⟩
 unfold Uf
 simp
 rw[T.run_mk _ (Z) (Z) (Z) (Z),bf _ rfl rfl rfl,xi rfl,zw h1]
 simp
theorem Xg(a:List Int)(ha:qx a)(la:a.length<=1000000000)(s n:Nat)(hs:s<32)(Yg:a.length<=n)(Co:n<=a.length+1)(GS:nv a*2 ^ s<4294967296 ^ n) :
  ∃ r,(rM a (s:Int) (n:Int)).run=some r/\qx r/\r.length=n/\nv r=nv a*2 ^ s:=by
 obtain⟨r,h1,M,h3,h4⟩:=HQ a ha la s n hs Yg Co GS
 refine⟨r,?_,M,h3,h4⟩
 have GD:(Wy (s:Int) (n:Int) a (a.length:Int) (0,X n 0)).run=some r:=h1
 unfold rM
 simp
 rw[T.run_mk _ (Z) (Z) (Z) (Z),bf _ rfl rfl rfl,xi rfl,zw GD]
 simp
theorem zkJ{a b s:Nat}(hs:s<=32)(ha:a<2 ^ (32-s)):a ||| b*2 ^ (32-s)=a+b*2 ^ (32-s):=by rw[Nat.or_comm,Lm b a (32-s) ha,qG]
theorem fx(s:Nat)(h:s<=32):(4294967296:Nat)=2 ^ (32-s)*2 ^ s:=by rw[<- qA,show 32-s+s=32 by omega]
theorem zkT{v s:Nat}(hs:s<=32):v*4294967296 / 2 ^ s=v*2 ^ (32-s):=by
 rw[fx s hs,<- qJ,Nat.mul_div_cancel _ (zT (Z))]
theorem zd1{v s:Nat}(hs:s<=32):v*2 ^ (32-s) / 4294967296=v / 2 ^ s:=by
 rw[fx s hs,zE v,Nat.mul_div_mul_left _ _ (zT (Z))]
theorem zd2{v s:Nat}(hs:s<=32):v*2 ^ (32-s) % 4294967296=(v % 2 ^ s)*2 ^ (32-s):=by
 rw[fx s hs,zE (2 ^ (32-s)),xH]
theorem z8M{zD v P s C:Nat}(hs:s<=32)(hC:C=zD / 2 ^ s):C+P*((v % 2 ^ s)*2 ^ (32-s))+P*4294967296*(v / 2 ^ s)=(zD+P*4294967296*v) / 2 ^ s:=by
 have hp:0<2 ^ s:=zT (Z)
 have e1:zD+P*4294967296*v=zD+(P*2 ^ (32-s)*v)*2 ^ s:=by
  have:P*4294967296*v=P*(2 ^ (32-s)*2 ^ s)*v:=by rw[<- fx s hs]
  grind
 rw[e1,Nat.add_mul_div_right _ _ hp,hC]
 have e2:v=v % 2 ^ s+2 ^ s*(v / 2 ^ s):=by have:=qC v (2 ^ s); omega
 have e3:P*4294967296*(v / 2 ^ s)=P*(2 ^ (32-s)*2 ^ s)*(v / 2 ^ s):=by rw[<- fx s hs]
 grind
theorem z2W(x:List Int)(N:qx x)(lx:x.length<=4000000000)(s:Nat)(hs:s<32) :
  ∃ r,(Uc (s:Int) x (x.length:Int) (0,X x.length 0)).run=some r/\qx r/\r.length=x.length/\nv r=nv x / 2 ^ s:=by
 refine T.cy (λz:Int×List Int=>∃ i:Nat,z.1=(i:Int)/\i<=x.length/\qx z.2/\z.2.length=x.length/\(∀ j,i<=j->lm z.2 j=0)/\(∀ j,i=j+1->lm z.2 j=lm x j / 2 ^ s)/\nv (z.2.take i)=nv (x.take i) / 2 ^ s)
  (λz=>x.length-z.1.toNat) _ ?_ ⟨0,rfl,Z,vO _,qz,λj _ => ?_,λj h=>Z,qz⟩
 ·rintro⟨_,xs⟩ ⟨i,rfl,hi,R,hn,hz,hp,hv⟩
  simp only at R hn hz hp hv ⊢
  by_cases wM:i<x.length
  ·left
   have FT:=lA N i
   have I:wi (lm x i:Int)=lm x i:=lC (Z)
   have h32:(32:Int)=((32:Nat):Int):=rfl
   have w1:jk .u64 (Za .u64 (lm x i:Int) 32) (s:Int)=((lm x i*2 ^ (32-s):Nat):Int):=by
    rw[h32,LC FT (Z),zd0 (Z),<- zkT (Z)]
   have hq:lm x i / 2 ^ s<4294967296:=zG (qK _ _) FT
   have w2:gM (jk .u64 ((lm x i*2 ^ (32-s):Nat):Int) 32)=((lm x i / 2 ^ s:Nat):Int):=by rw[Ey,zd1 (Z),K2 hq]
   have w3:H7 .u32 (wj xs i 0) ((lm x i / 2 ^ s:Nat):Int)=((lm x i / 2 ^ s:Nat):Int):=by
    rw[oN R,hz i (zJ _),KC (Z) hq,Nat.zero_or]
   cases i with
   | zero =>
    refine⟨(1,xs.set 0 ((lm x 0 / 2 ^ s:Nat):Int)),?_,⟨1,rfl,Z,kc R _ hq,by simpa using hn,λj h => ?_,λj h => ?_,?_⟩,by simp; omega⟩
    ·have w3':=w3
     simp only[Int.natCast_zero]at *
     have Kv:nth x 0 0=(lm x 0:Int):=iJ N 0
     unfold iE
     simp only[bp,Kv,zA,Nat.zero_add,I,w1,w2,w3]
     have zp9:H7 .u32 (wj xs (Int.toNat 0) 0) ((lm x 0 / 2 ^ s:Nat):Int)=((lm x 0 / 2 ^ s:Nat):Int):=w3
     generalize lm x 0 / 2 ^ s=q at *
     simp only[zp9]
     simp(disch:=omega) [wM,hn]
    ·rw[mf _ _ _ _ (Z)]; exact hz j (Z)
    ·have:j=0:=Z
     subst this
     rw[Jb (Z),if_pos rfl,zA]
    ·simp only
     rw[sS _ (Z),ve]; simp only[zA,List.take_zero,z2j,Nat.pow_zero,Nat.one_mul,Nat.zero_add]
   | succ i =>
    have Dp:=hp i rfl
    have znD:=lA N i
    have hq2:lm xs i<2 ^ (32-s):=by
     rw[Dp,zM (zT (Z)),<- fx s (Z)]; exact znD
    have hq3:lm x (i+1)*2 ^ (32-s) % 4294967296=(lm x (i+1) % 2 ^ s)*2 ^ (32-s):=zd2 (Z)
    have hq4:lm xs i+(lm x (i+1) % 2 ^ s)*2 ^ (32-s)<4294967296:=by
     have h1:lm x (i+1) % 2 ^ s+1<=2 ^ s:=zV _ (zT (Z))
     have M:=Y (2 ^ (32-s)) h1
     rw[zE (2 ^ s),<- fx s (Z),Nat.add_mul]at M
     omega
    have hxi:=lA R i
    have w4:∀ ys:List Int,qx ys->lm ys i=lm xs i->H7 .u32 (wj ys i 0) (gM ((lm x (i+1)*2 ^ (32-s):Nat):Int))=((lm xs i+(lm x (i+1) % 2 ^ s)*2 ^ (32-s):Nat):Int):=by
     intro ys hys he
     rw[oN hys,he,z1f,KC hxi (zV _ (Z)),hq3,zkJ (Z) hq2]
    have w5:=w4 _ (kc R (i+1) hq) (mf _ _ _ _ (Z))
    refine⟨(((i+1+1:Nat):Int),(xs.set (i+1) ((lm x (i+1) / 2 ^ s:Nat):Int)).set i ((lm xs i+(lm x (i+1) % 2 ^ s)*2 ^ (32-s):Nat):Int)),?_,
     ⟨i+1+1,rfl,Z,kc (kc R _ hq) _ hq4,by simpa using hn,λj h => ?_,λj h => ?_,?_⟩,by simp; omega⟩
    ·unfold iE
     simp only[bp,iJ N,zA,Nat.zero_add,I,w1,w2,w3,i1 (i+1) (Z),im1 i (Z),w5]
     rw[vI (by simp; omega)]
     have Wr:decide ((0:Int)<((i+1:Nat):Int))=true:=qz
     generalize hG:(xs.set (i+1) ((lm x (i+1) / 2 ^ s:Nat):Int)).set i ((lm xs i+(lm x (i+1) % 2 ^ s)*2 ^ (32-s):Nat):Int)=G
     have hGl:G.length=xs.length:=by rw[<- hG]; simp
     rw[vM _ (Z) (Z),iU _ (Z),iU _ (Z),vM _ (Z) (Z),fB _ rfl (Z),iU _ (Z),vM _ (Z) (Z),fB _ rfl (Z),vI Wr,
      vM _ (Z) (Z),fB _ (qz) (by simp; omega),vM _ (Z) (Z),fB _ (qz) (by simp; omega),bf _ (Z) rfl (Z),yX _ (Z),xz]
    ·rw[mf _ _ _ _ (Z),mf _ _ _ _ (Z)]; exact hz j (Z)
    ·have:j=i+1:=Z
     subst this
     rw[mf _ _ _ _ (Z),Jb (Z),if_pos rfl,zA]
    ·simp only
     rw[ve,mf _ _ _ _ (Z),Jb (Z),if_pos rfl,zA,sS _ (by simp; omega),JW _ _ _ _ (Z),zA,ve,zF]
     have EE:=hv
     rw[ve]at EE
     have e:nv (xs.take i)+4294967296 ^ i*(lm xs i+lm x (i+1) % 2 ^ s*2 ^ (32-s))=(nv (xs.take i)+4294967296 ^ i*lm xs i)+4294967296 ^ i*(lm x (i+1) % 2 ^ s*2 ^ (32-s)):=by rw[qO]; omega
     rw[e]
     exact z8M (Z) EE
  ·right
   have:i=x.length:=Z
   subst this
   refine⟨xs,?_,R,hn,?_⟩
   ·unfold iE
    simp
   ·grind
 ·show lm (X x.length 0) j=0
  unfold lm nth
  grind
theorem z6h{A k:Nat}(h:(vP A).length<=k):A<4294967296 ^ k:=uG.1 h
theorem z2H(k:Nat):(4294967296:Nat) ^ (k / 32)*2 ^ (k % 32)=2 ^ k:=by
 have:(4294967296:Nat)=2 ^ 32:=xn
 rw[this,<- Nat.pow_mul,<- qA]; congr 1; omega
theorem GJ(a:List Int)(ha:qx a)(la:a.length<=1000000000)(k:Nat)(hk:k<=4096)(h0:0<k):(me a (-(k:Int))).run=some (vP (nv a / 2 ^ k)):=by
 have qa:=vL ha
 unfold me
 rw[zw (bG a ha (Z))]
 generalize nv a=A at *
 have e1:ZP (lh (-(k:Int)) (-4096)) 4096 = -(k:Int):=by unfold ZP lh; repeat' split<;>omega
 have e2:qi (0 - -(k:Int))=(k:Int):=by rw[qp (Z) (Z)]; omega
 have e3:qi (xI (k:Int) 32)=((k / 32:Nat):Int):=by rw[Xz (Z),qp (Z) (Z)]; omega
 have e4:wi (xJ (k:Int) 32)=((k % 32:Nat):Int):=by rw[XA (Z),gN (Z) (Z)]; omega
 simp only[e1,e2,e3,e4]
 rw[vI (xy),sX _ (Z)]
 have N:=wI A
 by_cases c:(vP A).length<=k / 32
 ·rw[vI (by simp; omega),xz]
  have h1:=z6h c
  have M:=z2H k
  have h3:4294967296 ^ (k / 32)<=2 ^ k:=by rw[<- M]; exact Nat.le_mul_of_pos_right _ (zT (Z))
  rw[qI (Z),gK]
 ·rw[j7 (by simp; omega),sX _ (Z)]
  have e5:qi (((vP A).length:Int)-((k / 32:Nat):Int))=(((vP A).length-k / 32:Nat):Int):=by rw[qp (Z) (Z)]; omega
  have e6:jJ (e:=.int .u32) ((k / 32:Nat):Int) ((vP A).length:Int) (vP A)=(vP A).drop (k / 32):=by unfold jJ; simp only[zA,List.take_length]
  obtain⟨r,g1,g2,g3,g4⟩:=z2W ((vP A).drop (k / 32)) (rI N _) (by simp; omega) (k % 32) (zV _ (Z))
  have hlen:((vP A).drop (k / 32)).length=(vP A).length-k / 32:=List.length_drop
  rw[hlen]at g1
  simp only[e5,e6,zA,zW,hlen]
  rw[T.run_mk _ (Z) (Z) (Z) (Z),Xr _ (Z) (Z) (Z),bf _ rfl rfl rfl,xi rfl,zw g1]
  simp only[Nat.zero_add,qF,List.take_length]
  rw[xi rfl,zw (bG r g2 (Z)),xz,g4]
  have h1:=nk (vP A) (k / 32) (Z)
  rw[jj]at h1
  have M:=bY N (k / 32)
  have h3:A / 4294967296 ^ (k / 32)=nv ((vP A).drop (k / 32)):=by
   refine(congrArg (· / 4294967296 ^ (k / 32)) h1).trans ?_
   rw[Nat.add_mul_div_left _ _ (Fh _),qI M,Nat.zero_add]
  rw[<- h3,qQ,z2H]
theorem CO(k:Nat)(l:List Int):nv (X k 0++l)=4294967296 ^ k*nv l:=by rw[pz]; simp
theorem GK(a:List Int)(ha:qx a)(la:a.length<=1000000000)(k:Nat)(hk:k<=4096):(me a (k:Int)).run=some (vP (nv a*2 ^ k)):=by
 have qa:=vL ha
 unfold me
 rw[zw (bG a ha (Z))]
 generalize nv a=A at *
 have e1:ZP (lh (k:Int) (-4096)) 4096=(k:Int):=by unfold ZP lh; repeat' split<;>omega
 have e3:qi (xI (k:Int) 32)=((k / 32:Nat):Int):=by rw[Xz (Z),qp (Z) (Z)]; omega
 have e4:wi (xJ (k:Int) 32)=((k % 32:Nat):Int):=by rw[XA (Z),gN (Z) (Z)]; omega
 have N:=wI A
 have e5:qi ((vP A).length+1:Int)=(((vP A).length+1:Nat):Int):=i1 _ (Z)
 have e6:qi (qi (((k / 32:Nat):Int)+(vP A).length)+1)=((k / 32+(vP A).length+1:Nat):Int):=by rw[qp (x:=((k / 32:Nat):Int)+(vP A).length) (Z) (Z),qp (Z) (Z)]; omega
 have GS:nv (vP A)*2 ^ (k % 32)<4294967296 ^ ((vP A).length+1):=by
  have h1:=YU N
  have M:2 ^ (k % 32)<=2 ^ 32:=zZ (Z) (Z)
  exact qY h1 M (Z)
 obtain⟨r,g1,g2,g3,g4⟩:=CF (vP A) N (Z) (k % 32) ((vP A).length+1) (zV _ (Z)) (Z) (Z) GS
 simp only[e1,e3,e4,e5,e6]
 rw[j7 (qz),sX _ (Z),T.run_mk _ (Z) (Z) (Z) (Z),Xr _ (Z) (by simp; omega) (qz),sX _ (Z),zw g1]
 simp only[zA,Nat.zero_add,zW,qF]
 rw[z8J _ rfl (Z),Ge]
 have ec:((yr (k / 32) (k / 32+(vP A).length+1-k / 32) (X (k / 32+(vP A).length+1) (0:Int)) r))=X (k / 32) 0++r:=by
  unfold yr
  rw[List.take_replicate,List.drop_replicate,zI (Z)]
  rw[show k / 32+(vP A).length+1-(k / 32+min (k / 32+(vP A).length+1-k / 32) r.length)=0 by omega]
  grind
 rw[ec,zI (by simp; omega)]
 rw[zw (bG _ (U5.2 ⟨vO _,g2⟩) (by simp; omega)),xz,CO,g4,jj]
 rw[<- z2H k]; grind
theorem Ry{u2 u1 u0 v1 v2:Nat}(M:u2<4294967296)(h1:u1<4294967296)(h0:u0<4294967296)(hv1:v1<4294967296)(EE:v2<4294967296)(hn:2147483648<=v1)
  (ht:u2*18446744073709551616+u1*4294967296+u0<(v1*4294967296+v2+1)*4294967296) :
  (pq (u2:Int) (u1:Int) (u0:Int) (v1:Int) (v2:Int)).run=some ((min ((u2*18446744073709551616+u1*4294967296+u0) / (v1*4294967296+v2)) 4294967295:Nat):Int):=by
 obtain⟨t1,t2⟩:=Rz hn EE ht
 have ti:=IH (u2:=u2) (u1:=u1) (u0:=u0) (v1:=v1) (v2:=v2) (Z) h0
 obtain⟨Q,hQ⟩:∃ Q,(u2*18446744073709551616+u1*4294967296+u0) / (v1*4294967296+v2)=Q:=⟨_,rfl⟩
 rw[hQ]at ti ⊢
 have hV:0<v1*4294967296+v2:=Z
 have e1:=z0M (x:=(u2:Int)) (y:=(u1:Int)) (Z) (Z) (Z) (Z)
 have e2:(u2:Int)*4294967296+(u1:Int)=((u2*4294967296+u1:Nat):Int):=Z
 have w1:wi (u1:Int)=u1:=lC (Z)
 have w2:wi (u2:Int)=u2:=lC (Z)
 have w0:wi (u0:Int)=u0:=lC (Z)
 have x1:wi (v1:Int)=v1:=lC (Z)
 have x2:wi (v2:Int)=v2:=lC (Z)
 have e3:xI ((u2*4294967296+u1:Nat):Int) (v1:Int)=(((u2*4294967296+u1) / v1:Nat):Int):=by rw[Xz (Z)]; rfl
 have e4:xJ ((u2*4294967296+u1:Nat):Int) (v1:Int)=(((u2*4294967296+u1) % v1:Nat):Int):=by rw[XA (Z)]; rfl
 have hm:(u2*4294967296+u1) % v1<v1:=zV _ (Z)
 have hdm:=qC (u2*4294967296+u1) v1
 rw[zE]at hdm
 have loop:∃ r:Int,(Ue (u0:Int) (v1:Int) (v2:Int) ((((u2*4294967296+u1) / v1:Nat):Int),(((u2*4294967296+u1) % v1:Nat):Int))).run=some r/\r=((min Q 4294967295:Nat):Int):=by
  refine T.cy (λs:Int×Int=>∃ q r:Nat,s.1=(q:Int)/\s.2=(r:Int)/\q<=4294967297/\r<4294967296/\q*v1+r=u2*4294967296+u1/\min Q 4294967295<=q)
   (λs=>s.1.toNat) _ ?_ ⟨_,_,rfl,rfl,t2,Z,hdm,Z⟩
  rintro⟨_,_⟩ ⟨q,r,rfl,rfl,hq,hr,hqr,zbF⟩
  have e5:=z0M (x:=(r:Int)) (y:=(u0:Int)) (Z) (Z) (Z) (Z)
  have es:jk .u64 (q:Int) 32=((q / 4294967296:Nat):Int):=Ey q
  by_cases hbig:4294967296<=q\/r*4294967296+u0<q*v2
  ·-- too many
   have hgt:min Q 4294967295<q:=by
    rcases hbig with h | h
    ·omega
    ·have:=z0a hV (z09 (u2:=u2) (u1:=u1) (u0:=u0) (v1:=v1) (v2:=v2) hqr h)
     omega
   have ec:((jk .u64 (q:Int) 32 != 0)||decide (H7 .u64 (Za .u64 (r:Int) 32) (u0:Int)<wi ((q:Int)*(v2:Int))))=true:=by
    rw[es,e5]
    by_cases h:4294967296<=q
    ·grind
    ·have hh:r*4294967296+u0<q*v2:=hbig.resolve_left h
     have hm2:=Jg (x:=q) (y:=v2) (Nat.lt_of_not_le h) EE
     have e6:(q:Int)*(v2:Int)=((q*v2:Nat):Int):=qz
     rw[e6,lC (zG hm2 (xn))]
     grind
   have eq1:wi ((q:Int)-1)=((q-1:Nat):Int):=by rw[gN (Z) (Z)]; omega
   have er1:wi ((r:Int)+(v1:Int))=((r+v1:Nat):Int):=by rw[gN (Z) (Z)]; omega
   have hq1:(q-1)*v1+(r+v1)=u2*4294967296+u1:=by
    obtain⟨p,rfl⟩:∃ p,q=p+1:=⟨q-1,Z⟩
    grind
   by_cases hover:4294967296<=r+v1
   ·right
    refine⟨((q-1:Nat):Int),?_,?_⟩
    ·unfold iG
     simp only[w0,x1,x2,eq1,er1]
     rw[xi ⟨Z,λ_=>Z⟩,vI ec,iU _ (Z),vI (by rw[Ey]; simp; omega),xz]
    ·-- what is left cannot be more
     have hq2:q-1<=Q:=by
      rw[<- hQ,zN hV]
      refine El (u0:=u0) hq1 ?_
      have h3:q-1<=4294967295:=by
       grind
      have h4:(q-1)*v2<=4294967295*4294967295:=qX h3 (Z)
      grind
     have h5:q-1<=4294967295:=by
      grind
     omega
   ·left
    refine⟨(((q-1:Nat):Int),((r+v1:Nat):Int)),?_,⟨q-1,r+v1,rfl,rfl,Z,Z,hq1,Z⟩,by simp; omega⟩
    unfold iG
    simp only[w0,x1,x2,eq1,er1]
    rw[xi ⟨Z,λ_=>Z⟩,vI ec,iU _ (Z),j7 (by rw[Ey]; simp; omega),xz]
  ·right
   have hm2:=Jg (x:=q) (y:=v2) (Z) EE
   have e6:(q:Int)*(v2:Int)=((q*v2:Nat):Int):=qz
   have ec:((jk .u64 (q:Int) 32 != 0)||decide (H7 .u64 (Za .u64 (r:Int) 32) (u0:Int)<wi ((q:Int)*(v2:Int))))=false:=by
    have hz:q / 4294967296=0:=Z
    rw[es,e5,e6,lC (zG hm2 (xn)),hz]
    have hh:¬ (r*4294967296+u0<q*v2):=Z
    generalize q*v2=z at *
    rw[show decide ((r:Int)*4294967296+(u0:Int)<(z:Int))=false from decide_eq_false (Z)]; rfl
   refine⟨(q:Int),?_,?_⟩
   ·unfold iG
    simp only[w0,x1,x2]
    rw[xi ⟨Z,λ_=>Z⟩,j7 ec,xz]
   ·have hq2:q<=Q:=by
     rw[<- hQ,zN hV]
     exact El hqr (Z)
    omega
 obtain⟨r,hr,rfl⟩:=loop
 unfold pq
 have e7:wi (((u2*4294967296+u1) / v1:Nat):Int)=(((u2*4294967296+u1) / v1:Nat):Int):=lC (Z)
 simp only[w1,w2,x1,e1,e2,e3,e4,e7]
 rw[iU _ (Z),sX _ (Z),sX _ (Z),zw hr,xz]
theorem BB{x y b:Nat}(N:x<4294967296)(hy:y<4294967296)(I:b<=1) :
  (kX (x:Int) (y:Int) (b:Int)).run=some ((((x+4294967296*(if x<y+b then 1 else 0))-(y+b):Nat):Int),((if x<y+b then 1 else 0:Nat):Int)):=by
 have e1:=zkV N hy I
 have e2:=Tw N hy I rfl
 unfold kX
 rw[iU _ (Z),e1,e2,xz]
 grind
theorem R9{x y b:Nat}(N:x<4294967296)(hy:y<4294967296)(I:b<=1) :
  (eI (x:Int) (y:Int) (b:Int)).run=some ((((x+y+b) % 4294967296:Nat):Int),(((x+y+b) / 4294967296:Nat):Int)):=by
 have e:wi (wi ((x:Int)+(y:Int))+(b:Int))=((x+y+b:Nat):Int):=by rw[gN (x:=(x:Int)+y) (Z) (Z),gN (Z) (Z)]; omega
 unfold eI
 rw[iU _ (Z),lC (Z),lC (Z),lC (Z),e,Ey,z1f,K2 (Z),xz]
theorem fh(xs:List Int)(o i:Nat)(x:Int):(xs.set (o+i) x).drop o=(xs.drop o).set i x:=by
 rw[List.drop_set,if_neg (Z)]; congr 1; omega
theorem rJ(xs:List Int)(o i:Nat):lm (xs.drop o) i=lm xs (o+i):=by
 unfold lm nth
 grind
theorem z3d{zC X' P hx c bo q v w lo hi d zB k:Nat}(h:zC+q*hx=zB+(bo+c)*P)(hs:X'+P*w=zC+P*d)(hc:c+q*v=lo+4294967296*hi)(J:d+(lo+bo)=w+4294967296*k) :
  X'+q*(hx+P*v)=zB+(k+hi)*(P*4294967296):=xy
theorem zkK{c q v:Nat}(hc:c<4294967296)(hq:q<4294967296)(hv:v<4294967296):wi ((c:Int)+wi ((q:Int)*(v:Int)))=((c+q*v:Nat):Int)/\(c+q*v) / 4294967296<4294967296:=by
 have h:=Jg hq hv
 have e:(q:Int)*(v:Int)=((q*v:Nat):Int):=qz
 rw[e]
 generalize q*v=z at *
 rw[gN (x:=(z:Int)) (Z) (Z),gN (Z) (Z)]
 omega
theorem zd6(b:List Int)(I:qx b)(lb:b.length<=1000000000)(q:Nat)(hq:q<4294967296)(u:List Int)(hu:qx u)(o:Nat)(ho:o+b.length<u.length) :
  ∃ r:(Nat×Nat)×Int×Int×List Int,(Xh b (q:Int) b (b.length:Int) ((o,b.length+1),0,0,0,u)).run=some r/\r.1=(o,b.length+1)/\∃ c bo:Nat,r.2.1=(c:Int)/\r.2.2.1=(bo:Int)/\c<4294967296/\bo<=1/\qx r.2.2.2 /\
   r.2.2.2.length=u.length/\r.2.2.2.take o=u.take o/\(r.2.2.2.drop o).drop b.length=(u.drop o).drop b.length/\nv (r.2.2.2.drop o)+q*nv b=nv (u.drop o)+(bo+c)*4294967296 ^ b.length:=by
 refine T.cy (λs:(Nat×Nat)×Int×Int×Int×List Int=>s.1=(o,b.length+1)/\∃ c bo i:Nat,s.2.1=(c:Int)/\s.2.2.1=(bo:Int)/\s.2.2.2.1=(i:Int)/\c<4294967296/\bo<=1/\i<=b.length/\qx s.2.2.2.2 /\
   s.2.2.2.2.length=u.length/\s.2.2.2.2.take o=u.take o/\(s.2.2.2.2.drop o).drop i=(u.drop o).drop i/\nv (s.2.2.2.2.drop o)+q*nv (b.take i)=nv (u.drop o)+(bo+c)*4294967296 ^ i)
  (λs=>b.length-s.2.2.2.1.toNat) _ ?_ ⟨rfl,0,0,0,rfl,rfl,rfl,Z,Z,Z,hu,rfl,rfl,rfl,qz⟩
 rintro⟨_,_,_,_,xs⟩ ⟨rfl,c,bo,i,rfl,rfl,rfl,hc,hbo,hi,R,hn,ht,J,hv⟩
 simp only at R hn ht J hv ⊢
 by_cases wM:i<b.length
 ·left
  have hw:=lA I i
  have N:=lA R (o+i)
  obtain⟨m1,m2⟩:=zkK hc hq hw
  have hs:=BB N (show(c+q*lm b i) % 4294967296<4294967296 by omega) hbo
  have Es:lm xs (o+i)+4294967296*(if lm xs (o+i)<(c+q*lm b i) % 4294967296+bo then 1 else 0)-((c+q*lm b i) % 4294967296+bo)<4294967296:=by split<;>omega
  have SZ:(if lm xs (o+i)<(c+q*lm b i) % 4294967296+bo then 1 else 0)<=1:=by split<;>omega
  have hde:lm xs (o+i)+4294967296*(if lm xs (o+i)<(c+q*lm b i) % 4294967296+bo then 1 else 0)-((c+q*lm b i) % 4294967296+bo)+((c+q*lm b i) % 4294967296+bo)=lm xs (o+i)+4294967296*(if lm xs (o+i)<(c+q*lm b i) % 4294967296+bo then 1 else 0):=by split<;>omega
  generalize hD:lm xs (o+i)+4294967296*(if lm xs (o+i)<(c+q*lm b i) % 4294967296+bo then 1 else 0)-((c+q*lm b i) % 4294967296+bo)=D at *
  generalize hB:(if lm xs (o+i)<(c+q*lm b i) % 4294967296+bo then 1 else 0)=B2 at *
  refine⟨((o,b.length+1),((((c+q*lm b i) / 4294967296:Nat)):Int),(B2:Int),((i+1:Nat):Int),xs.set (o+i) (D:Int)),?_,
   ⟨rfl,(c+q*lm b i) / 4294967296,B2,i+1,rfl,rfl,rfl,m2,SZ,Z,kc R _ Es,by simpa using hn,?_,?_,?_⟩,by simp; omega⟩
  ·unfold iH
   have ew:wi (lm b i:Int)=lm b i:=lC (Z)
   simp only[bp,iJ I,zA,oN R,ew,m1,z1f,Ey,i1 i (Z)]
   rw[vI (by simp; omega),vM _ (Z) (Z),vM _ (Z) (Z),fB _ rfl (Z),zw hs]
   simp only
   rw[vM _ (Z) (Z),fB _ rfl (Z),iU _ (Z),xi rfl,yX _ (qz),xz]
  ·simp only
   rw[zS (Z),ht]
  ·simp only
   rw[fh,cA]
   have:=congrArg (xK 1) J
   rw[qE,qE,]at this
   simpa[xC,qG]using this
  ·simp only
   rw[fh,ve,zF]
   have nU:=CM (a:=xs.drop o) (i:=i) (D:Int) (by simp; omega)
   rw[zA,rJ]at nU
   exact z3d (lo:=(c+q*lm b i) % 4294967296) hv nU (by generalize c+q*lm b i=z; omega) hde
 ·right
  have:i=b.length:=Z
  subst this
  refine⟨((o,b.length+1),(c:Int),(bo:Int),xs),?_,rfl,c,bo,rfl,rfl,hc,hbo,R,hn,ht,J,by simpa[List.take_length]using hv⟩
  unfold iH
  simp
theorem Tp{zC X' P hx m v w d hi zB:Nat}(h:zC+m*P=zB+hx)(hs:X'+P*w=zC+P*d)(J:d+4294967296*hi=w+v+m):X'+hi*(P*4294967296)=zB+(hx+P*v):=xy
theorem zd7(b:List Int)(I:qx b)(lb:b.length<=1000000000)(u:List Int)(hu:qx u)(o:Nat)(ho:o+b.length<u.length) :
  ∃ r:(Nat×Nat)×Int×List Int,(Xi b b (b.length:Int) ((o,b.length+1),0,0,u)).run=some r/\r.1=(o,b.length+1)/\∃ m:Nat,r.2.1=(m:Int)/\m<=1/\qx r.2.2 /\
   r.2.2.length=u.length/\r.2.2.take o=u.take o/\(r.2.2.drop o).drop b.length=(u.drop o).drop b.length/\nv (r.2.2.drop o)+m*4294967296 ^ b.length=nv (u.drop o)+nv b:=by
 refine T.cy (λs:(Nat×Nat)×Int×Int×List Int=>s.1=(o,b.length+1)/\∃ m i:Nat,s.2.1=(m:Int)/\s.2.2.1=(i:Int)/\m<=1/\i<=b.length/\qx s.2.2.2 /\
   s.2.2.2.length=u.length/\s.2.2.2.take o=u.take o/\(s.2.2.2.drop o).drop i=(u.drop o).drop i/\nv (s.2.2.2.drop o)+m*4294967296 ^ i=nv (u.drop o)+nv (b.take i))
  (λs=>b.length-s.2.2.1.toNat) _ ?_ ⟨rfl,0,0,rfl,rfl,Z,Z,hu,rfl,rfl,rfl,qz⟩
 rintro⟨_,_,_,xs⟩ ⟨rfl,m,i,rfl,rfl,hm,hi,R,hn,ht,J,hv⟩
 simp only at R hn ht J hv ⊢
 by_cases wM:i<b.length
 ·left
  have hw:=lA I i
  have N:=lA R (o+i)
  have hs:=R9 N hw hm
  refine⟨((o,b.length+1),(((lm xs (o+i)+lm b i+m) / 4294967296:Nat):Int),((i+1:Nat):Int),xs.set (o+i) (((lm xs (o+i)+lm b i+m) % 4294967296:Nat):Int)),?_,
   ⟨rfl,_,i+1,rfl,rfl,Z,Z,kc R _ (Z),by simpa using hn,?_,?_,?_⟩,by simp; omega⟩
  ·unfold iI
   simp only[bp,iJ I,zA,oN R,i1 i (Z)]
   rw[vI (by simp; omega),vM _ (Z) (Z),vM _ (Z) (Z),fB _ rfl (Z),zw hs]
   simp only
   rw[vM _ (Z) (Z),fB _ rfl (Z),xi rfl,yX _ (qz),xz]
  ·simp only
   rw[zS (Z),ht]
  ·simp only
   rw[fh,cA]
   have:=congrArg (xK 1) J
   simpa[xC,qG]using this
  ·simp only
   rw[fh,ve,zF]
   have nU:=CM (a:=xs.drop o) (i:=i) (((lm xs (o+i)+lm b i+m) % 4294967296:Nat):Int) (by simp; omega)
   rw[zA,rJ]at nU
   exact Tp hv nU (Z)
 ·right
  have:i=b.length:=Z
  subst this
  refine⟨((o,b.length+1),(m:Int),xs),?_,rfl,m,rfl,hm,R,hn,ht,J,by simpa[List.take_length]using hv⟩
  unfold iI
  simp
theorem Xk{D:List Int}(R:qx D)(k:Nat)(hk:k<=D.length)(h:nv D<4294967296 ^ k):nv (D.drop k)=0:=by
 have h1:=nk D k hk
 rcases qB (nv (D.drop k))with z | z
 ·exact z
 ·have:=zK (4294967296 ^ k) z
  omega
theorem Uj{D:List Int}(R:qx D)(k:Nat)(hk:k<=D.length)(h:nv (D.drop k)=0):nv D<4294967296 ^ k:=by
 have h1:=nk D k hk
 have M:=bY R k
 grind
theorem z1b{zC X' P q hx c bo w d zB k:Nat}(h:zC+q*hx=zB+(bo+c)*P)(hs:X'+P*w=zC+P*d)(J:d+(c+bo)=w+4294967296*k):X'+q*hx=zB+k*(P*4294967296):=xy
theorem Tq{z6 zB zC oE P L m p hx:Nat}(h1:z6+P*L=zB+P*((L+m) % 4294967296))(M:zB+m*P=zC+hx)(h3:zC+(p+1)*hx=oE+1*(P*4294967296))(h4:z6<P*4294967296)(h5:(p+1)*hx<=oE+hx)
  (hm:m<=1) (hL:L<4294967296):z6+(p+1-1)*hx=oE:=by
 by_cases hov:L+m<4294967296
 ·rw[qS hov,qO]at h1
  grind
 ·have zsh:(L+m) % 4294967296=0:=Z
  grind
theorem SQ(b:List Int)(I:qx b)(lb:b.length<=1000000000)(q:Nat)(hq:q<4294967296)(u:List Int)(hu:qx u)(lu:u.length<=4000000000)(o:Nat)(ho:o+b.length<u.length)
  (GS:nv (u.drop o)<4294967296 ^ (b.length+1)) (zg3:q*nv b<=nv (u.drop o)+nv b) :
  ∃ xs:List Int,(sQ (o,b.length+1) b (q:Int) u).run=some (decide (nv (u.drop o)<q*nv b),xs)/\qx xs/\xs.length=u.length/\xs.take o=u.take o /\
   nv (xs.drop o)+(if nv (u.drop o)<q*nv b then q-1 else q)*nv b=nv (u.drop o):=by
 obtain⟨⟨_,_,_,xs⟩,hr,rfl,c,bo,rfl,rfl,hc,hbo,R,hn,ht,J,hv⟩:=zd6 b I lb q hq u hu o ho
 simp only at R hn ht J hv
 have hBl:=YU I
 have N:=lA R (o+b.length)
 have hs:=BB N hc hbo
 have Es:lm xs (o+b.length)+4294967296*(if lm xs (o+b.length)<c+bo then 1 else 0)-(c+bo)<4294967296:=by split<;>omega
 have SZ:(if lm xs (o+b.length)<c+bo then 1 else 0)<=1:=by split<;>omega
 have hde:lm xs (o+b.length)+4294967296*(if lm xs (o+b.length)<c+bo then 1 else 0)-(c+bo)+(c+bo)=lm xs (o+b.length)+4294967296*(if lm xs (o+b.length)<c+bo then 1 else 0):=by split<;>omega
 generalize lm xs (o+b.length)+4294967296*(if lm xs (o+b.length)<c+bo then 1 else 0)-(c+bo)=D at *
 generalize (if lm xs (o+b.length)<c+bo then 1 else 0)=B2 at *
 have nU:=CM (a:=xs.drop o) (i:=b.length) (D:Int) (by simp; omega)
 rw[zA,rJ,<- fh]at nU
 have z0K:=z1b hv nU hde
 have hl1:qx (xs.set (o+b.length) (D:Int)):=kc R _ Es
 have Yg:(xs.set (o+b.length) (D:Int)).length=u.length:=by simpa using hn
 have ht1:(xs.set (o+b.length) (D:Int)).take o=u.take o:=by rw[zS (Z),ht]
 have hd1:((xs.set (o+b.length) (D:Int)).drop o).drop (b.length+1)=(u.drop o).drop (b.length+1):=by
  rw[fh,cA]
  have:=congrArg (xK 1) J
  rw[qE,qE]at this
  simpa[xC,qG]using this
 have hz:=Xk (rI hu o) (b.length+1) (by simp; omega) GS
 have z0R:nv ((xs.set (o+b.length) (D:Int)).drop o)<4294967296 ^ (b.length+1):=Uj (rI hl1 o) _ (by simp; omega) (by rw[hd1]; exact hz)
 have zlR:(4294967296:Nat) ^ (b.length+1)=4294967296 ^ b.length*4294967296:=zF ..
 have ec:gM (c:Int)=c:=K2 hc
 unfold sQ
 rw[yX _ rfl,yX _ rfl,zw hr]
 simp only[zA,bp,oN R,ec]
 rw[vM _ (Z) (Z),fB _ rfl (Z),zw hs]
 simp only
 rw[vM _ (Z) (Z),fB _ rfl (Z)]
 generalize hX:xs.set (o+b.length) (D:Int)=zC at *
 rcases qB B2 with z | z
 ·subst z
  rw[vI (qz),yX _ (Z),xz]
  grind
 ·have hB2:B2=1:=Z
  subst hB2
  have wM:nv (u.drop o)<q*nv b:=Z
  obtain⟨⟨_,_,ys⟩,hr2,rfl,m,rfl,hm,ZL,Co,RO,hd2,EE⟩:=zd7 b I lb zC hl1 o (Z)
  simp only at ZL Co RO hd2 EE
  have hy:=lA ZL (o+b.length)
  have eu:gM ((lm ys (o+b.length):Int)+(m:Int))=(((lm ys (o+b.length)+m) % 4294967296:Nat):Int):=by rw[<- z1f]; rfl
  rw[j7 (qz),xi rfl,yX _ (Z),zw hr2]
  simp only[zA,bp,oN ZL,eu]
  rw[vM _ (Z) (Z),fB _ rfl (Z),vM _ (Z) (Z),fB _ rfl (Z),yX _ (qz),xz]
  have z9K:=CM (a:=ys.drop o) (i:=b.length) (((lm ys (o+b.length)+m) % 4294967296:Nat):Int) (by simp; omega)
  rw[zA,rJ,<- fh]at z9K
  have hl3:qx (ys.set (o+b.length) (((lm ys (o+b.length)+m) % 4294967296:Nat):Int)):=kc ZL _ (Z)
  have hd3:((ys.set (o+b.length) (((lm ys (o+b.length)+m) % 4294967296:Nat):Int)).drop o).drop (b.length+1)=(u.drop o).drop (b.length+1):=by
   rw[fh,cA,<- hd1]
   have:=congrArg (xK 1) hd2
   rw[qE,qE]at this
   simpa[xC,qG]using this
  have zfZ:nv ((ys.set (o+b.length) (((lm ys (o+b.length)+m) % 4294967296:Nat):Int)).drop o)<4294967296 ^ (b.length+1):=Uj (rI hl3 o) _ (by simp; omega) (by rw[hd3]; exact hz)
  refine⟨_,by rw[decide_eq_true wM],hl3,by simp; omega,?_,?_⟩
  ·rw[zS (Z),RO,ht1]
  ·rw[if_pos wM]
   generalize nv ((ys.set (o+b.length) (((lm ys (o+b.length)+m) % 4294967296:Nat):Int)).drop o)=z6 at *
   obtain⟨p,rfl⟩:∃ p,q=p+1:=⟨q-1,by
    rcases qB q with h | h
    ·subst h; omega
    ·omega⟩
   rw[zlR]at zfZ
   exact Tq z9K EE z0K zfZ zg3 hm hy
def ZO:zx:=[0,1,2,2,3,3,3,3,4,4,4,4,4,4,4,4]++X 16 5++X 32 6++X 64 7++X 128 8
theorem S0:∀ y:Fin 256,y.val≠0->1<=(ZO.getD y.val 0).toNat/\(ZO.getD y.val 0).toNat<=8/\2 ^ ((ZO.getD y.val 0).toNat-1)<=y.val/\y.val<2 ^ (ZO.getD y.val 0).toNat:=by decide +kernel
set_option maxRecDepth 100000 in
theorem L5:ZO.length=256:=by rfl
theorem len8{y:Nat}(h0:0<y)(h:y<256):∃ t:Nat,uv ZO (y:Int)=(t:Int)/\1<=t/\t<=8/\2 ^ (t-1)<=y/\y<2 ^ t:=by
 have:=S0 ⟨y,h⟩ (by simp; omega)
 refine⟨(ZO.getD y 0).toNat,?_,this⟩
 unfold uv
 rw[zA]
theorem Pj{x s:Nat}(hs:s<=32):jk .u32 (x:Int) (s:Int)=((x / 2 ^ s:Nat):Int):=by
 show Int.fdiv (x:Int) (2 ^ (min (s:Int).toNat 32))=_
 grind
set_option maxRecDepth 100000 in
theorem RZ{x:Nat}(h0:0<x)(h:x<4294967296):∃ t:Nat,(eK (x:Int)).run=some (t:Int)/\1<=t/\t<=32/\2 ^ (t-1)<=x/\x<2 ^ t:=by
 have zmZ:eK (x:Int)=(.W (((decide ((65536:Int)<=(x:Int)))=true)->((0:Int)<=(16:Int))) <|
  .W (((decide ((256:Int)<=(bif (decide ((65536:Int)<=(x:Int)))then(jk .u32 (x:Int) (16:Int))else(x:Int))))=true)->((0:Int)<=(8:Int))) <|
  .W (xe (wu8 (bif (decide ((256:Int)<=(bif (decide ((65536:Int)<=(x:Int)))then(jk .u32 (x:Int) (16:Int))else(x:Int))))then(jk .u32 (bif (decide ((65536:Int)<=(x:Int)))then(jk .u32 (x:Int) (16:Int))else(x:Int)) (8:Int))else(bif (decide ((65536:Int)<=(x:Int)))then(jk .u32 (x:Int) (16:Int))else(x:Int)))) ZO.length) <|
  .ret (qi ((bif (decide ((256:Int)<=(bif (decide ((65536:Int)<=(x:Int)))then(jk .u32 (x:Int) (16:Int))else(x:Int))))then(qi ((bif (decide ((65536:Int)<=(x:Int)))then(16:Int)else(0:Int))+(8:Int)))else(bif (decide ((65536:Int)<=(x:Int)))then(16:Int)else(0:Int)))+(qi (uv ZO (wu8 (bif (decide ((256:Int)<=(bif (decide ((65536:Int)<=(x:Int)))then(jk .u32 (x:Int) (16:Int))else(x:Int))))then(jk .u32 (bif (decide ((65536:Int)<=(x:Int)))then(jk .u32 (x:Int) (16:Int))else(x:Int)) (8:Int))else(bif (decide ((65536:Int)<=(x:Int)))then(jk .u32 (x:Int) (16:Int))else(x:Int)))))))):T Int):=by rfl
 rw[zmZ,L5]
 -- y: what is left; k: how many bits ahead of it
 obtain⟨y,k,e1,e2,hk,hy0,hy,hlo,hhi⟩:∃ y k:Nat,(bif (decide ((256:Int)<=(bif (decide ((65536:Int)<=(x:Int)))then(jk .u32 (x:Int) (16:Int))else(x:Int))))then(jk .u32 (bif (decide ((65536:Int)<=(x:Int)))then(jk .u32 (x:Int) (16:Int))else(x:Int)) (8:Int))else(bif (decide ((65536:Int)<=(x:Int)))then(jk .u32 (x:Int) (16:Int))else(x:Int)))=(y:Int) /\
   (bif (decide ((256:Int)<=(bif (decide ((65536:Int)<=(x:Int)))then(jk .u32 (x:Int) (16:Int))else(x:Int))))then(qi ((bif (decide ((65536:Int)<=(x:Int)))then(16:Int)else(0:Int))+(8:Int)))else(bif (decide ((65536:Int)<=(x:Int)))then(16:Int)else(0:Int)))=(k:Int) /\
   k<=24/\0<y/\y<256/\y*2 ^ k<=x/\x<(y+1)*2 ^ k:=by
  have s16:jk .u32 (x:Int) 16=((x / 65536:Nat):Int):=Pj (s:=16) (Z)
  have s8:∀ z:Nat,jk .u32 (z:Int) 8=((z / 256:Nat):Int):=λz=>Pj (s:=8) (Z)
  by_cases c1:65536<=x
  ·rw[show decide ((65536:Int)<=(x:Int))=true from decide_eq_true (Z)]
   simp only[cond_true,s16]
   by_cases c2:256<=x / 65536
   ·rw[show decide ((256:Int)<=((x / 65536:Nat):Int))=true from decide_eq_true (Z)]
    simp only[cond_true,s8]
    exact⟨x / 65536 / 256,24,rfl,xn,Z,Z,Z,Z,Z⟩
   ·rw[show decide ((256:Int)<=((x / 65536:Nat):Int))=false from decide_eq_false (Z)]
    simp only[cond_false]
    exact⟨x / 65536,16,rfl,rfl,Z,Z,Z,Z,Z⟩
  ·rw[show decide ((65536:Int)<=(x:Int))=false from decide_eq_false (Z)]
   simp only[cond_false]
   by_cases c2:256<=x
   ·rw[show decide ((256:Int)<=(x:Int))=true from decide_eq_true (Z)]
    simp only[cond_true,s8]
    exact⟨x / 256,8,rfl,xn,Z,Z,Z,Z,Z⟩
   ·rw[show decide ((256:Int)<=(x:Int))=false from decide_eq_false (Z)]
    simp only[cond_false]
    exact⟨x,0,rfl,rfl,Z,Z,Z,Z,Z⟩
 obtain⟨t,t1,t2,t3,t4,t5⟩:=len8 hy0 hy
 rw[e1,e2,zdg (Z) (Z),t1,qp (x:=(t:Int)) (Z) (Z),qp (Z) (Z)]
 refine⟨k+t,?_,Z,Z,?_,?_⟩
 ·rw[xi (λ_=>Z),xi (λ_=>Z),vM _ (Z) (Z),xz]; rfl
 ·rw[show k+t-1=(t-1)+k by omega,qA]
  exact zQ (Y _ t4) hlo
 ·rw[show k+t=t+k by omega,qA]
  exact Nat.lt_of_lt_of_le hhi (Y _ t5)
theorem z1X{x:Nat}(h0:0<x)(h:x<4294967296):∃ s:Nat,(kl (x:Int)).run=some (s:Int)/\s<32/\2147483648<=x*2 ^ s/\x*2 ^ s<4294967296:=by
 obtain⟨t,t1,t2,t3,t4,t5⟩:=RZ h0 h
 refine⟨32-t,?_,Z,?_,?_⟩
 ·unfold kl
  rw[zw t1,xz,qp (Z) (Z)]
  grind
 ·have:=Y (2 ^ (32-t)) t4
  rw[<- qA,show t-1+(32-t)=31 by omega]at this
  exact this
 ·have:=qD t5 (show 0<2 ^ (32-t)from zT (Z))
  rw[<- qA,show t+(32-t)=32 by omega]at this
  exact this
theorem horner(a b c:Nat):(a*4294967296+b)*4294967296+c=a*18446744073709551616+b*4294967296+c:=by
 rw[Nat.add_mul,qJ]
theorem II{u2 u1 u0 v1 v2:Nat}(M:u2<4294967296)(h1:u1<4294967296)(h0:u0<4294967296)(hv1:v1<4294967296)(EE:v2<4294967296)(hn:2147483648<=v1)
  (ht:(u2*4294967296+u1)*4294967296+u0<(v1*4294967296+v2+1)*4294967296) :
  (pq (u2:Int) (u1:Int) (u0:Int) (v1:Int) (v2:Int)).run=some ((min (((u2*4294967296+u1)*4294967296+u0) / (v1*4294967296+v2)) 4294967295:Nat):Int):=by
 rw[horner]at ht ⊢
 exact Ry M h1 h0 hv1 EE hn ht
theorem z3e(a b P t:Nat):t+P*b+P*4294967296*a=(a*4294967296+b)*P+t:=xy
theorem zkX(d:List Int)(n:Nat)(hn:d.length=n+2):nv d=(lm d (n+1)*4294967296+lm d n)*4294967296 ^ n+nv (d.take n):=by
 have h1:=ve d n
 have M:=ve d (n+1)
 rw[gJ (Z)]at M
 rw[M,h1,zF,z3e]
theorem z3f{hI a b c P Hc t1 t2 t3:Nat}(h1:t1=Hc+P*c)(M:t2=t1+P*hI*b)(h3:t3=t2+P*hI*hI*a):t3=((a*hI+b)*hI+c)*P+Hc:=by
 rw[h3,M,h1]; grind
theorem zp5(w:List Int)(n:Nat)(h:nv (w.drop (n+1+1+1))=0):nv w=((lm w (n+1+1)*4294967296+lm w (n+1))*4294967296+lm w n)*4294967296 ^ n+nv (w.take n):=by
 have h0:nv w=nv (w.take (n+1+1+1)):=by
  by_cases c:n+1+1+1<=w.length
  ·have:=nk w (n+1+1+1) c
   rw[h,Nat.mul_zero,qH]at this; exact this
  ·rw[gJ (Z)]
 have h1:=ve w n
 have M:=ve w (n+1)
 have h3:=ve w (n+1+1)
 rw[zF]at M
 rw[zF,zF,<- h0]at h3
 exact z3f h1 M h3
theorem L6{a b:List Int}{k i:Nat}(h:a.take k=b.take k)(hi:i<k):lm a i=lm b i:=by
 have e:=congrArg (λl=>l[i]?) h
 simp only[qW,if_pos hi]at e
 unfold lm nth
 rw[zP,zP,zA,e]
theorem zda{U3 V2 D zC zB oE zD:Nat}(hU:oE=U3*D+zC)(hV:zD=V2*D+zB)(hY:zB<D)(hUV:oE<zD*4294967296):U3<(V2+1)*4294967296:=by
 have h1:U3*D<(V2+1)*4294967296*D:=by
  have e:(V2+1)*4294967296*D=(V2*D+D)*4294967296:=xy
  rw[e]
  have:zD*4294967296<=(V2*D+D)*4294967296:=Y _ (Z)
  omega
 exact zU h1
theorem SV(d:List Int)(J:qx d)(n:Nat)(hn:d.length=n+2)(ED:2147483648<=lm d (n+1))(w:List Int)(hw:qx w)(hwl:n+1+1+1<=w.length)(hW:nv w<nv d*4294967296) :
  ∃ x:Nat,(pq (lm w (n+1+1):Int) (lm w (n+1):Int) (lm w n:Int) (lm d (n+1):Int) (lm d n:Int)).run=some (x:Int)/\x<4294967296/\nv w / nv d<=x/\x<=nv w / nv d+1/\nv w<4294967296 ^ (d.length+1):=by
 have Es:=YU J
 have hdt:=zkX d n hn
 have hdn:=bY J n
 have hWp:nv w<4294967296 ^ (d.length+1):=by
  rw[zF]
  exact Nat.lt_of_lt_of_le hW (Y _ (Nat.le_of_lt Es))
 have hz:=Xk hw (d.length+1) (Z) hWp
 rw[show d.length+1=n+1+1+1 by omega]at hz
 have ht3:=zp5 w n hz
 have hwn:=bY hw n
 have hU3:=zda ht3 hdt hdn hW
 refine⟨_,II (lA hw _) (lA hw _) (lA hw _) (lA J _) (lA J _) ED hU3,?_,?_,?_,hWp⟩
 ·exact zG (Nat.min_le_right _ _) (xn)
 ·refine(MG ht3 hwn hdt hdn ?_ hW rfl).1
  exact zQ (Y 4294967296 ED) (Nat.le_add_right _ _)
 ·refine(MG ht3 hwn hdt hdn ?_ hW rfl).2
  exact zQ (Y 4294967296 ED) (Nat.le_add_right _ _)
theorem znM{zk zD x:Nat}(g2:x<=zk / zD+1):x*zD<=zk+zD:=by
 have h1:=Y zD g2
 have M:=qV zk zD
 rw[Nat.add_mul,Nat.one_mul]at h1
 omega
theorem digit{zk zD x:Nat}(hV:0<zD)(g1:zk / zD<=x)(g2:x<=zk / zD+1):(if zk<x*zD then x-1 else x)=zk / zD:=by
 have hdm:=qC zk zD
 have hml:=zV zk hV
 have hz:0<=zk / zD:=xB _
 split
 ·rename_i c
  have:x≠zk / zD:=by
   intro h
   rw[h,zE]at c; omega
  generalize zk / zD=z at *
  omega
 ·rename_i c
  have hle:x<=zk / zD:=(zN hV).2 (Z)
  exact Nat.le_antisymm hle g1
theorem zde{l hx zD:Nat}(R:l<4294967296)(hN:hx<zD):l+4294967296*hx<zD*4294967296:=by
 have:=zK 4294967296 (show hx+1<=zD from hN)
 omega
theorem L7(d:List Int)(J:qx d)(n:Nat)(hn:d.length=n+2)(ln:n<=999999990)(ED:2147483648<=lm d (n+1))(y:Int)(i:Nat)(li:i<=1000000000)(u q:List Int)(R:qx u)(lu:u.length<=2000000000)(hiu:i+d.length<u.length)
  (hq:qx q) (hiq:i<q.length) (wM:nv (u.drop (i+1))<nv d) :
  ∃ (xs:List Int) (z:Nat),(nj y d ((n+2:Nat):Int) ((i:Int),u,q)).run=some (.inl ((i:Int)-1,xs,q.set i (z:Int)))/\z<4294967296/\qx xs/\xs.length=u.length/\xs.take i=u.take i/\nv (xs.drop i)<nv d /\
   nv (xs.drop i)+z*nv d=lm u i+4294967296*nv (u.drop (i+1)):=by
 have hwd:=Kx (a:=u) (i:=i) (Z)
 have hW:=zde (lA R i) wM
 rw[<- hwd]at hW
 obtain⟨x,hg,N,g1,g2,hWp⟩:=SV d J n hn ED (u.drop i) (rI R i) (by rw[List.length_drop]; omega) hW
 have hdp:0<nv d:=zG (xB _) wM
 obtain⟨xs,hr,FT,hxn,hxt,MO⟩:=SQ d J (Z) x N u R (Z) i hiu hWp (znM g2)
 have zbu:=digit hdp g1 g2
 rw[zbu]at MO
 rw[rJ,rJ,rJ]at hg
 have hdq:nv (u.drop i) / nv d<4294967296:=zG g1 N
 have zbG:nv (xs.drop i)<nv d:=by
  have h1:=qC (nv (u.drop i)) (nv d)
  have M:=zV (nv (u.drop i)) hdp
  grind
 refine⟨xs,nv (u.drop i) / nv d,?_,hdq,FT,hxn,hxt,zbG,by rw[MO,hwd]⟩
 have hx1:∀ c:Bool,c=decide (nv (u.drop i)<x*nv d)->(if c=true then wi ((x:Int)-1)else(x:Int))=((nv (u.drop i) / nv d:Nat):Int):=by
  intro c hc
  rw[<- zbu]
  by_cases cc:nv (u.drop i)<x*nv d
  ·have Kv:x≠0:=by intro h; subst h; omega
   rw[hc,decide_eq_true cc,if_pos rfl,if_pos cc,gN (Z) (Z)]; omega
  ·grind
 generalize nv (u.drop i) / nv d=z at *
 clear g1 g2 MO zbu hW hWp wM zbG hwd
 have ei:qi ((i:Int)-1)=(i:Int)-1:=qp (Z) (Z)
 have a0:qi ((i:Int)+((n+2:Nat):Int))=((i+(n+1+1):Nat):Int):=by rw[qp (Z) (Z)]; omega
 have a1:qi (((i+(n+1+1):Nat):Int)-1)=((i+(n+1):Nat):Int):=by rw[qp (Z) (Z)]; omega
 have a2:qi (((i+(n+1+1):Nat):Int)-2)=((i+n:Nat):Int):=by rw[qp (Z) (Z)]; omega
 have a3:qi (((n+2:Nat):Int)-1)=((n+1:Nat):Int):=by rw[qp (Z) (Z)]; omega
 have a4:qi (((n+2:Nat):Int)-2)=((n:Nat):Int):=by rw[qp (Z) (Z)]; omega
 have a5:qi (((i+(n+1+1):Nat):Int)+1)=((i+(n+1+1)+1:Nat):Int):=i1 _ (Z)
 have znC:i+(n+1+1)+1-i=d.length+1:=Z
 unfold nj
 simp only[ei,a0,a1,a2,a3,a4,a5]
 rw[vI (qz)]
 rw[vM _ (Z) (Z),fB _ rfl (Z),vM _ (Z) (Z),fB _ rfl (Z),vM _ (Z) (Z),fB _ rfl (Z),vM _ (Z) (Z),vM _ (Z) (Z)]
 simp only[zA,Nat.zero_add,bp,oN R,iJ J,znC]
 rw[zw hg]
 have hc:=hx1 _ rfl
 rw[zw (a:=((z:Int),xs,q)) ?_]
 ·simp only[K2 hdq]
  rw[vM _ (Z) (Z),fB _ rfl (Z),bf _ (qz) rfl (qz),bf _ rfl rfl rfl,xi rfl,yX _ (qz),xz]
 ·rw[Xr _ (Z) (Z) (Z),xi rfl,xi rfl,zw hr]
  simp only[Fm]
  by_cases cc:nv (u.drop i)<x*nv d
  ·rw[if_pos (decide_eq_true cc)]at hc ⊢
   rw[bf _ rfl rfl rfl,bf _ (Z) rfl (Z),xi rfl,xi rfl,xz,hc]
  ·rw[if_neg (by simpa using cc)]at hc ⊢
   rw[bf _ rfl rfl rfl,bf _ (Z) rfl (Z),xi rfl,xi rfl,xz,hc]
theorem Sl(d:List Int)(J:qx d)(m n:Nat)(hn:d.length=n+2)(hm:n+2<=m)(lm':m<=999999990)(ED:2147483648<=lm d (n+1))(u0:List Int)(hu0:qx u0)(hlu:u0.length=m+1)
  (vX:nv (u0.drop (m-(n+2)+1))<nv d) (y:Int) :
  ∃ r:List Int×List Int,(JM y d ((n+2:Nat):Int) (((m-(n+2):Nat):Int),u0,X (m-(n+2)+1) 0)).run=some r/\qx r.1/\r.1.length=m+1/\qx r.2/\r.2.length=m-(n+2)+1/\nv r.1<nv d/\nv u0=nv r.2*nv d+nv r.1:=by
 refine T.cy (λs:Int×List Int×List Int=>∃ k:Nat,s.1=(k:Int)-1/\k<=m-(n+2)+1/\qx s.2.1/\s.2.1.length=m+1/\qx s.2.2/\s.2.2.length=m-(n+2)+1/\s.2.1.take k=u0.take k /\
   nv (s.2.1.drop k)<nv d/\nv (u0.drop k)=nv (s.2.2.drop k)*nv d+nv (s.2.1.drop k))
  (λs=>(s.1+1).toNat) _ ?_ ⟨m-(n+2)+1,qz,zJ _,hu0,hlu,vO _,qz,rfl,vX,qz⟩
 rintro⟨_,u,q⟩ ⟨k,rfl,hk,R,hul,hq,hql,htk,wM,hv⟩
 simp only at R hul hq hql htk wM hv ⊢
 cases k with
 | zero =>
  right
  refine⟨(u,q),?_,R,hul,hq,hql,xy,xy⟩
  unfold nj
  simp
 | succ i =>
  left
  obtain⟨xs,z,hr,hz,FT,hxn,hxt,hxm,MO⟩:=L7 d J n hn (Z) ED y i (Z) u q R (Z) (Z) hq (Z) wM
  have e1:((i+1:Nat):Int)-1=(i:Int):=Z
  refine⟨((i:Int)-1,xs,q.set i (z:Int)),xy,⟨i,rfl,Z,FT,hxn.trans hul,kc hq _ hz,xy,?_,hxm,?_⟩,qz⟩
  ·simp only
   have:=congrArg (List.take i) htk
   grind
  ·simp only
   rw[set_drop _ (Z),zA,Kx (a:=u0) (Z),<- L6 htk (show i<i+1 by omega)]
   grind
theorem z1k{A hI S Q hl:Nat}(hS:0<S)(h:A*S=Q*(hI*S)+hl)(hR:hl<hI*S):Q=A / hI/\hl / S=A % hI:=by
 have hB:0<hI:=zO λz=>by subst z; simp at hR
 have h1:=qC hl S
 have h3:A*S=S*(Q*hI+hl / S)+hl % S:=by
  grind
 have h4:hl % S=0:=by
  have:=congrArg (· % S) h3
  simp only[Nat.mul_mod_left]at this
  rw[qG,Nat.add_mul_mod_self_left,Nat.mod_mod]at this
  grind
 rw[h4,qH,zE A]at h3
 have h5:=qZ hS h3
 have h6:hl / S<hI:=(zM hS).2 hR
 constructor
 ·rw[h5,zE,Nat.mul_add_div hB,qI h6,qH]
 ·rw[h5,zE,Nat.mul_add_mod,qS h6]
theorem z38{A S P D zD zC:Nat}(hA:A<D*P)(hS:S<=2147483648)(hV:2147483648*P<=zD)(hX:zC*D<=A*S)(hD:0<D)(hS0:0<S):zC<zD:=by
 have h1:A*S<D*zD:=by
  have a1:A*S<D*P*S:=qD hA hS0
  have a2:D*P*S<=D*zD:=by
   have:P*S<=zD:=by
    have:=zK P hS
    grind
   rw[qJ]
   exact zK D this
  omega
 have M:zC*D<zD*D:=by rw[zE zD]; exact zG hX h1
 exact zU M
theorem CG(a b:List Int)(ha:qx a)(I:qx b)(la:a.length<=100000000)(n:Nat)(hbn:b.length=n+2)(hba:b.length<=a.length)(ED:lm b (n+1)≠0) :
  (Ug a b).run=some (vP (nv a / nv b),vP (nv a % nv b)):=by
 have ht:=lA I (n+1)
 obtain⟨s,hs,T8,hs2,hs3⟩:=z1X (x:=lm b (n+1)) (Z) ht
 have zga:2 ^ s<=2147483648:=by
  have:2 ^ s<=2 ^ 31:=zZ (Z) (Z)
  exact this
 have Ws:0<2 ^ s:=zT (Z)
 have hBt:=zkX b n hbn
 -- the divisor
 have z9z:nv b*2 ^ s<4294967296 ^ b.length:=by
  have h1:=ve b (n+1)
  rw[gJ (Z)]at h1
  have M:=bY I (n+1)
  have h3:nv b<4294967296 ^ (n+1)*(lm b (n+1)+1):=by rw[h1,qO]; omega
  rw[hbn]
  have h4:(lm b (n+1)+1)*2 ^ s<=4294967296:=by
   have hm:4294967296=2 ^ (32-s)*2 ^ s:=fx s (Z)
   have h5:lm b (n+1)<2 ^ (32-s):=by
    rw[hm]at hs3
    exact zU hs3
   have:=Y (2 ^ s) (show lm b (n+1)+1<=2 ^ (32-s)from h5)
   grind
  have h5:nv b*2 ^ s<4294967296 ^ (n+1)*(lm b (n+1)+1)*2 ^ s:=qD h3 Ws
  have h6:4294967296 ^ (n+1)*(lm b (n+1)+1)*2 ^ s<=4294967296 ^ (n+2):=by
   rw[qJ,zF 4294967296 (n+1)]
   exact zK _ h4
  grind
 obtain⟨d,J,Es,hdn,hdv⟩:=Xg b I (Z) s b.length T8 (zJ _) (Z) z9z
 have zfL:nv a*2 ^ s<4294967296 ^ (a.length+1):=by
  have h1:=YU ha
  rw[zF]
  exact qY h1 (zQ zga (Z)) (Z)
 obtain⟨u,hu,hul,hun,huv⟩:=Xg a ha (Z) s (a.length+1) T8 (Z) (Z) zfL
 -- fp highest limb
 have z9v:2147483648<=lm d (n+1):=by
  have h1:=ve d (n+1)
  rw[gJ (Z),hdv]at h1
  have M:=bY Es (n+1)
  have h3:=ve b (n+1)
  rw[gJ (Z)]at h3
  have h4:4294967296 ^ (n+1)*(lm b (n+1)*2 ^ s)<=nv b*2 ^ s:=by
   rw[<- qJ]
   exact Y _ (Z)
  have h5:4294967296 ^ (n+1)*2147483648<=nv b*2 ^ s:=zQ (zK _ hs2) h4
  have h6:4294967296 ^ (n+1)*2147483648<4294967296 ^ (n+1)*(lm d (n+1)+1):=by
   rw[qO]; omega
  have:=Nat.lt_of_mul_lt_mul_left h6
  omega
 have vX:nv (u.drop (a.length-(n+2)+1))<nv d:=by
  have h1:=nk u (a.length-(n+2)+1) (Z)
  have M:nv (u.drop (a.length-(n+2)+1))*4294967296 ^ (a.length-(n+2)+1)<=nv a*2 ^ s:=by
   rw[<- huv,h1,zE]; omega
  have h3:2147483648*4294967296 ^ (n+1)<=nv d:=by
   have h4:=ve d (n+1)
   rw[gJ (Z)]at h4
   have h5:=zK (4294967296 ^ (n+1)) z9v
   rw[zE 2147483648]; omega
  have h4:nv a<4294967296 ^ (a.length-(n+2)+1)*4294967296 ^ (n+1):=by
   rw[<- qA,show a.length-(n+2)+1+(n+1)=a.length by omega]
   exact YU ha
  exact z38 h4 zga h3 M (Fh _) Ws
 obtain⟨⟨xu,xq⟩,hr,hxu,hxun,hxq,hxqn,hxlt,MO⟩:=Sl d Es a.length n (Z) (Z) (Z) z9v u hul (Z) vX (s:Int)
 simp only at hxu hxun hxq hxqn hxlt MO
 rw[huv,hdv]at MO
 rw[hdv]at hxlt
 obtain⟨f1,f2⟩:=z1k Ws MO hxlt
 -- the text
 have e1:qi ((b.length:Int)-1)=((n+1:Nat):Int):=by rw[qp (Z) (Z)]; omega
 have es:wi (s:Int)=s:=lC (Z)
 have e2:qi ((a.length:Int)+1)=((a.length+1:Nat):Int):=i1 _ (Z)
 have e3:qi (qi ((a.length:Int)-((n+2:Nat):Int))+1)=((a.length-(n+2)+1:Nat):Int):=by rw[qp (x:=(a.length:Int)-((n+2:Nat):Int)) (Z) (Z),qp (Z) (Z)]; omega
 have e4:qi (((a.length-(n+2)+1:Nat):Int)-1)=((a.length-(n+2):Nat):Int):=im1 _ (Z)
 have e5:qi (s:Int)=s:=qp (Z) (Z)
 have e6:qi (0-(s:Int)) = -(s:Int):=by rw[qp (Z) (Z)]; omega
 unfold Ug
 simp only[e1,e2,bp,iJ I]
 rw[vM _ (Z) (Z),zw hs]
 simp only[es]
 rw[zw hu,zw J]
 simp only[e3,e4,e5,e6,zA,zW,Nat.zero_add,qF,List.take_length,hdn,hbn]
 rw[T.run_mk _ (Z) (Z) (Z) (Z),xi rfl,bf _ rfl rfl rfl,bf _ rfl rfl rfl,xi rfl,Ge]
 have zn1:d.take (n+2)=d:=zI (Z)
 simp only[zn1]
 rw[zw hr]
 simp only[List.take_length]
 rw[xi rfl,xi rfl,zw (bG xq hxq (Z)),Xr _ (Z) (Z) (Z)]
 have ec:jJ (e:=.int .u32) 0 ((n+2:Nat):Int) xu=xu.take (n+2):=by unfold jJ; simp only[zA,Int.toNat_zero,qF]
 have hxt:nv (xu.take (n+2))=nv xu:=by
  have h1:=nk xu (n+2) (Z)
  have M:=Xk hxu (n+2) (Z) (Nat.lt_trans hxlt (by rw[<- hbn]; exact z9z))
  rw[M]at h1; omega
 rw[ec]
 have hsh:(me (xu.take (n+2)) (-(s:Int))).run=some (vP (nv xu / 2 ^ s)):=by
  rcases qB s with z | z
  ·subst z
   have:=GK (xu.take (n+2)) (WY hxu _) (by simp; omega) 0 (Z)
   rw[hxt]at this
   simpa using this
  ·have:=GJ (xu.take (n+2)) (WY hxu _) (by simp; omega) s (Z) z
   rw[hxt]at this
   exact this
 rw[zw hsh,xz,f2,f1]
theorem z8b{A:Nat}(k:Nat)(h:(vP A).length=k+1):lm (vP A) k≠0:=by
 intro hz
 have h1:=ve (vP A) k
 rw[gJ (Z),hz,Nat.mul_zero,qH,jj]at h1
 have M:=bY (wI A) k
 have:=uG.2 (show A<4294967296 ^ k by omega)
 omega
theorem iv(a b:List Int)(ha:qx a)(I:qx b)(la:a.length<=100000000)(lb:b.length<=100000000) :
  (dv a b).run=some (if nv b=0 then([],[],false)else(vP (nv a / nv b),vP (nv a % nv b),true)):=by
 have qa:=vL ha
 have qb:=vL I
 unfold dv
 rw[zw (bG a ha (Z)),zw (bG b I (Z))]
 generalize nv a=A at *
 generalize nv b=hI at *
 by_cases hB:hI=0
 ·subst hB
  rw[gK]; simp
 ·have kf:(vP hI).length≠0:=by
   intro h
   exact hB (dx.1 (V h))
  rw[if_neg hB,j7 (by simpa using kf),zw (JJ _ _ (wI A) (wI hI) (Z) (Z)),jj,jj]
  by_cases wM:A<hI
  ·rw[vI (by unfold DT; rw[if_pos wM]; rfl),zw (tG _ (wI A) (Z)),xz,jj,qI wM,qS wM,gK]
  ·rw[j7 (by unfold DT; rw[if_neg wM]; split<;>simp)]
   by_cases h1:(vP hI).length=1
   ·-- by one limb
    have FR:vP hI=[(hI:Int)]:=by
     rw[XY hB]at h1 ⊢
     have:hI / 4294967296=0:=by
      have:(vP (hI / 4294967296)).length=0:=by simpa using h1
      exact dx.1 (V this)
     rw[this,gK]
     congr 1; omega
    have hBl:hI<4294967296:=by
     have:=uG.1 (Nat.le_of_eq h1)
     simpa using this
    have e0:nth (vP hI) 0 0=(hI:Int):=by rw[FR]; rfl
    have hm:=zV A (zO hB)
    have hs:=WA (vP A) (wI A) (Z) hI (Z) hBl
    rw[jj]at hs
    rw[vI (by rw[h1]; rfl),vM _ (Z) (Z)]
    simp only[bp,e0]
    rw[zw hs]
    simp only[lC (show A % hI<18446744073709551616 by omega)]
    rw[zw (V8 _ (Z)),xz]
   ·obtain⟨n,hn⟩:∃ n,(vP hI).length=n+2:=⟨(vP hI).length-2,Z⟩
    have hle:(vP hI).length<=(vP A).length:=by
     rcases Nat.lt_or_ge (vP A).length (vP hI).length with h | h
     ·exact absurd (Ja h) wM
     ·exact h
    have R:=CG (vP A) (vP hI) (wI A) (wI hI) (Z) n hn hle (z8b (n+1) (Z))
    rw[jj,jj]at R
    rw[j7 (by simp; omega),zw R,xz]
theorem JK(a b:List Int)(ha:qx a)(I:qx b)(la:a.length<=100000000)(lb:b.length<=100000000):(XV a b).run=some (vP (zL (nv a) (nv b))):=by
 have qa:=vL ha
 have qb:=vL I
 unfold XV
 rw[zw (tG a ha (Z)),zw (tG b I (Z))]
 generalize nv a=A at *
 generalize nv b=hI at *
 have key:(YS (vP A,vP hI)).run=some (vP (zL A hI)):=by
  have:=Xb (r:=rL) (λs:List Int×List Int=>∃ A hI:Nat,s=(vP A,vP hI)/\(vP A).length<=100000000/\(vP hI).length<=100000000)
   (λs=>nv s.2) (λs=>vP (zL (nv s.1) (nv s.2))) ?_ (s:=(vP A,vP hI)) ⟨A,hI,rfl,Z,Z⟩
  ·rw[jj,jj]at this; exact this
  ·rintro _ ⟨A,hI,rfl,hA,hB'⟩
   simp only[jj]
   by_cases hB:hI=0
   ·right
    subst hB
    unfold rL
    rw[gK]; simp
   ·left
    have J:=iv (vP A) (vP hI) (wI A) (wI hI) hA hB'
    rw[jj,jj,if_neg hB]at J
    have hm:=zV A (zO hB)
    have kf:(vP hI).length≠0:=λh=>hB (dx.1 (V h))
    refine⟨(vP hI,vP (A % hI)),?_,⟨hI,A % hI,rfl,hB',?_⟩,by simpa using hm,?_⟩
    ·unfold rL
     rw[vI (by simp; omega),zw J,xz]
    ·have:(vP (A % hI)).length<=(vP hI).length:=uG.2 (Nat.lt_trans hm (uG.1 (zJ _)))
     omega
    ·simp only[jj]
     rw[Nat.gcd_comm,<- Nat.gcd_rec,Nat.gcd_comm]
 rw[zw key,xz]
theorem z2z:qx [(1:Int)]:=by
 intro x N; simp at N; omega
@[simp] theorem C7:zb (.int .u8)=(0:Int):=rfl
theorem z5i(r:Nat):uv ([48,49,50,51,52,53,54,55,56,57]:zx) ((r % 10:Nat):Int)=((48+r % 10:Nat):Int):=by
 have key:∀ d:Fin 10,uv ([48,49,50,51,52,53,54,55,56,57]:zx) ((d.val:Nat):Int)=((48+d.val:Nat):Int):=xn
 exact key ⟨r % 10,Z⟩
theorem Rx(q:List Int)(rest:Nat)(hr:rest<4294967296)(xs:List Int)(N:xs.length<=1000000000):(ZW q ((rest:Int),0,xs)).run=some (xs++Q4 9 rest):=by
 have:=Xb (r:=iC q) (λs:Int×Int×List Int=>∃ (r k:Nat),s.1=(r:Int)/\r<4294967296/\s.2.1=(k:Int)/\k<=9/\s.2.2.length<=1000000000+k)
  (λs=>9-s.2.1.toNat) (λs=>s.2.2++Q4 (9-s.2.1.toNat) s.1.toNat) ?_ (s:=((rest:Int),0,xs)) ⟨rest,0,rfl,hr,rfl,Z,Z⟩
 ·unfold ZW
  grind
 ·rintro⟨_,_,ys⟩ ⟨r,k,rfl,h1,rfl,M,h3⟩
  simp only at h3 ⊢
  by_cases hk:k<9
  ·left
   have e1:xJ (r:Int) 10=((r % 10:Nat):Int):=by rw[XA (Z)]; rfl
   have e2:gM (xI (r:Int) 10)=((r / 10:Nat):Int):=by rw[Xz (Z)]; exact K2 (n:=r / 10) (Z)
   refine⟨(((r / 10:Nat):Int),((k+1:Nat):Int),ys++[((48+r % 10:Nat):Int)]),?_,⟨r / 10,k+1,rfl,Z,rfl,Z,xy⟩,xy,?_⟩
   ·unfold iC
    simp only[e1,z5i]
    rw[vI (xy)]
    simp(disch:=omega) [oI]
   ·simp only[zA]
    rw[show 9-k=(9-(k+1))+1 by omega,Q4]
    simp
  ·right
   have:k=9:=Z
   subst this
   unfold iC
   simp[Q4]
theorem BV(n j:Nat)(h:n<4294967296 ^ j):(blk n).length<=18*j:=by
 induction j generalizing n with
 | zero =>
  have:n=0:=by simpa using h
  subst this; rw[QI]; simp
 | succ j ih =>
  by_cases hn:n=0
  ·grind
  ·rw[Kk hn]
   by_cases M:n / 1000000000=0
   ·rw[M,QI]; simp[Fi]; omega
   ·rw[Kk M]
    have h3:n / 1000000000 / 1000000000<4294967296 ^ j:=by
     grind
    have:=ih _ h3
    simp[Fi]; omega
theorem IG(n:Nat)(hn:(vP n).length<=1000000):(ZV (vP n,[])).run=some (blk n):=by
 have hbl:=BV n (vP n).length (uG.1 (zJ _))
 have:=Xb (r:=iB) (λs:List Int×List Int=>∃ m:Nat,s.1=vP m/\(vP m).length<=1000000/\s.2.length+(blk m).length<=18000000)
  (λs=>nv s.1) (λs=>s.2++blk (nv s.1)) ?_ (s:=(vP n,[])) ⟨n,rfl,hn,xy⟩
 ·unfold ZV
  simpa using this
 ·rintro⟨_,xs⟩ ⟨m,rfl,h1,M⟩
  simp only[jj]at M ⊢
  by_cases hm:m=0
  ·right
   subst hm
   unfold iB
   rw[gK,QI]; simp
  ·left
   have kf:(vP m).length≠0:=λh=>hm (dx.1 (V h))
   have hs:(pw (vP m) 1000000000).run=some (vP (nv (vP m) / 1000000000),((nv (vP m) % 1000000000:Nat):Int)):=WA (vP m) (wI m) (Z) 1000000000 (Z) (Z)
   rw[jj]at hs
   have hbm:=Kk hm
   have hg:=Rx (vP (m / 1000000000)) (m % 1000000000) (Z) xs (Z)
   have hlen:(vP (m / 1000000000)).length<=(vP m).length:=uG.2 (zG (qK _ _) (uG.1 (zJ _)))
   refine⟨(vP (m / 1000000000),xs++Q4 9 (m % 1000000000)),?_,⟨m / 1000000000,rfl,Z,?_⟩,?_,?_⟩
   ·unfold iB
    rw[vI (xy),zw hs]
    rw[bf _ rfl rfl rfl,xi rfl,zw hg,bf _ rfl rfl rfl,xi rfl,xz]
   ·grind
   ·simp only[jj]; omega
   ·simp only[jj]
    grind
theorem SN(l:List Int)(z:Nat)(R:l≠[])(zfU:∀ x,l.getLast? = some x->x≠48)(hn:l.length+z<=100000000) :
  (Ub ((0,(l++X z 48).length),l++X z 48)).run=some ((0,l.length),l++X z 48):=by
 generalize hX:l++X z 48=zC
 have hXl:zC.length=l.length+z:=by rw[<- hX]; simp
 have Wr:0<l.length:=qT.2 R
 have RG:∀ p:Nat,wj zC p 0=if p<l.length then wj l p 0 else if p<l.length+z then 48 else 0:=by
  intro p
  unfold wj
  grind
 have:=Xb (r:=iD) (λs:(Nat×Nat)×List Int=>∃ k:Nat,s.1=(0,l.length+k)/\k<=z/\s.2=zC) (λs=>s.1.2) (λ_=>((0,l.length),zC)) ?_ (s:=((0,zC.length),zC)) ⟨z,by rw[hXl],zJ _,rfl⟩
 ·exact this
 ·rintro⟨w,y⟩ ⟨k,h1,hk,M⟩
  simp only at h1 M
  rw[h1,M]
  have e1:qi (((l.length+k:Nat):Int)-1)=((l.length+k-1:Nat):Int):=by rw[qp (Z) (Z)]; omega
  have hg:=RG (l.length+k-1)
  cases k with
  | zero =>
   right
   have T1:wj l (l.length-1) 0≠48:=by
    refine zfU _ ?_
    rw[List.getLast?_eq_getElem?]
    unfold wj
    grind
   rw[qH]at hg
   rw[if_pos (Z)]at hg
   unfold iD
   simp only[qH]at e1 ⊢
   simp only[e1,zA,Nat.zero_add,C7,hg]
   rw[xi (λ_=>⟨⟨Z,Z⟩,⟨rfl,Z⟩⟩),j7 (by simp[T1]),xi rfl,xi rfl,xz]
  | succ k =>
   left
   refine⟨((0,l.length+k),zC),?_,⟨k,rfl,Z,rfl⟩,qz,rfl⟩
   unfold iD
   simp only[e1,zA,Nat.zero_add,C7,hg]
   rw[xi (λ_=>⟨⟨Z,Z⟩,⟨rfl,Z⟩⟩),vI (by simp; omega),Xr _ (Z) (Z) (Z),xi rfl,xi rfl,xz]
   simp
theorem Fl(xs:List Int)(n:Nat)(hn:n<=xs.length)(N:xs.length<=1000000000):∃ ys:List Int,(ku (0,n) xs).run=some ys/\ys.length=xs.length/\ys.take n=(xs.take n).reverse:=by
 have e0:qi ((n:Int)-1)=(n:Int)-1:=qp (Z) (Z)
 have loop:∃ ys:List Int,(cT ((0,n),0,(n:Int)-1,xs)).run=some ys/\ys.length=xs.length/\∀ p,p<n->ys[p]? = xs[n-1-p]? := by
  refine T.cy (λs:(Nat×Nat)×Int×Int×List Int=>s.1=(0,n)/\∃ i:Nat,s.2.1=(i:Int)/\s.2.2.1=(n:Int)-1-(i:Int)/\i<=n/\s.2.2.2.length=xs.length/\2*i<=n+1/\∀ p,p<n->s.2.2.2[p]? = if p<i\/n<p+i+1 then xs[n-1-p]? else xs[p]?)
   (λs=>n-s.2.1.toNat) _ ?_ ⟨rfl,0,rfl,qz,Z,rfl,Z,λp hp=>by rw[if_neg (Z)]⟩
  rintro⟨_,_,_,zs⟩ ⟨rfl,i,rfl,rfl,hi,R,h2i,hv⟩
  simp only at R hv ⊢
  by_cases wM:(i:Int)<(n:Int)-1-(i:Int)
  ·left
   have hj:((n:Int)-1-(i:Int)).toNat=n-1-i:=Z
   have ej:qi ((n:Int)-1-(i:Int)-1)=(n:Int)-1-((i+1:Nat):Int):=by rw[qp (Z) (Z)]; omega
   refine⟨((0,n),((i+1:Nat):Int),(n:Int)-1-((i+1:Nat):Int),(zs.set i (wj zs (n-1-i) 0)).set (n-1-i) (wj zs i 0)),?_,⟨rfl,i+1,rfl,rfl,Z,by simpa using R,Z,?_⟩,by simp; omega⟩
   ·unfold jb
    simp only[hj,zA,Nat.zero_add,C7,i1 i (Z),ej]
    rw[vI (decide_eq_true wM),vM _ (Z) (Z),fB _ rfl (Z),vM _ (Z) (Z),fB _ rfl (Z),vM _ (Z) (Z),fB _ rfl (Z),vM _ (Z) (Z),fB _ (qz) (by simp; omega),xi rfl,yX _ (qz),xz]
   ·intro p hp
    have g1:=hv i (Z)
    have g2:=hv (n-1-i) (Z)
    rw[if_neg (Z)]at g1 g2
    simp only[List.getElem?_set,List.length_set]
    by_cases c1:n-1-i=p
    ·rw[if_pos c1,if_pos (Z),if_pos (Z)]
     unfold wj
     grind
    ·rw[if_neg c1]
     by_cases c2:i=p
     ·rw[if_pos c2,if_pos (Z),if_pos (Z)]
      unfold wj
      grind
     ·grind
  ·right
   refine⟨zs,?_,R,λp hp => ?_⟩
   ·unfold jb
    rw[j7 (decide_eq_false wM),yX _ rfl,xz]
   ·grind
 obtain⟨ys,hr,R,hv⟩:=loop
 refine⟨ys,?_,R,?_⟩
 ·unfold ku
  rw[yX _ rfl,yX _ rfl,e0,zw hr,yX _ rfl,xz]
 ·apply List.ext_getElem?
  intro p
  by_cases hp:p<n
  ·have ZL:(xs.take n).length=n:=by simp; omega
   rw[qW,if_pos hp,hv p hp,List.getElem?_reverse (Z),ZL,qW,if_pos (Z)]
  ·rw[qR (by simp; omega),qR (by simp; omega)]
theorem H4(a:List Int)(ha:qx a)(la:a.length<=1000000):(mc a).run=some (pr (nv a)):=by
 have qa:=vL ha
 unfold mc
 rw[zw (tG a ha (Z))]
 generalize nv a=n at *
 by_cases hn:n=0
 ·subst hn; rw[gK]; simp[pr]
 ·have kf:(vP n).length≠0:=λh=>hn (dx.1 (V h))
  rw[j7 (by simpa using kf),bf _ rfl rfl rfl,yX _ rfl,zw (IG n (Z))]
  have hbl:=BV n (vP n).length (uG.1 (zJ _))
  obtain⟨z,hz⟩:=Tv n
  have hzl:=congrArg List.length hz
  rw[List.length_append,zW]at hzl
  have vX:=SN (rd n) z (za6 hn) (z8D n) (Z)
  rw[<- hz]at vX
  obtain⟨ys,hr,R,hv⟩:=Fl (blk n) (rd n).length (Z) (Z)
  rw[yX _ rfl,yX _ rfl,zw vX]
  simp only[Ge]
  rw[xi rfl,xi rfl,zw hr,yX _ R.symm,xz]
  simp only[Nat.zero_add,qF]
  rw[hv,hz,List.take_left,<- TQ]
  unfold pr
  rw[if_neg hn]
def Xm(neg:Bool)(n d:Nat):Rat:=if n=0\/d=0 then(false,[],[1],())else(neg,vP (n / zL n d),vP (d / zL n d),())
def zkM(k:Nat)(a:Rat):Prop:=qx a.2.1/\qx a.2.2.1/\a.2.1.length<=k/\a.2.2.1.length<=k
theorem OK:vP 1=[1]:=by rw[XY (Z),show 1 / 4294967296=0 from rfl,gK]; rfl
theorem dO{m n:Nat}(h:m<=n):(vP m).length<=(vP n).length:=uG.2 (zG h (uG.1 (zJ _)))
theorem z8A(neg:Bool)(n d k:Nat)(hk:1<=k)(hn:(vP n).length<=k)(J:(vP d).length<=k):zkM k (Xm neg n d):=by
 unfold Xm
 split
 ·exact⟨vH,z2z,qz,xy⟩
 ·exact⟨wI _,wI _,zQ (dO (qK _ _)) hn,zQ (dO (qK _ _)) J⟩
theorem Lt(neg:Bool)(n d:List Int)(hn:qx n)(J:qx d)(ln:n.length<=100000000)(ld:d.length<=100000000):(rR neg n d).run=some (Xm neg (nv n) (nv d)):=by
 have qn:=vL hn
 have qd:=vL J
 unfold rR
 rw[zw (tG n hn (Z)),zw (tG d J (Z))]
 generalize nv n=hx at *
 generalize nv d=D at *
 unfold Xm
 by_cases h:hx=0\/D=0
 ·rw[if_pos h]
  have e:(((vP hx).length:Int)==0||((vP D).length:Int)==0)=true:=by
   rcases h with rfl | rfl<;>simp[gK]
  have h1:(iA 1).run=some (vP 1):=V8 1 (Z)
  rw[vI e,zw h1,xz,OK]
 ·rw[if_neg h]
  have hN:hx≠0:=λz=>h (.inl z)
  have hD:D≠0:=λz=>h (.inr z)
  have n1:(vP hx).length≠0:=λh=>hN (dx.1 (V h))
  have n2:(vP D).length≠0:=λh=>hD (dx.1 (V h))
  have e:(((vP hx).length:Int)==0||((vP D).length:Int)==0)=false:=by rw[Bool.or_eq_false_iff]; exact⟨xy,xy⟩
  have hg:=JK (vP hx) (vP D) (wI hx) (wI D) (Z) (Z)
  rw[jj,jj]at hg
  have hgp:zL hx D≠0:=λz=>hN (Nat.gcd_eq_zero_iff.1 z).1
  have T1:(vP (zL hx D)).length<=100000000:=zQ (dO (xF D (zO hN))) (Z)
  have h1:=iv (vP hx) (vP (zL hx D)) (wI hx) (wI _) (Z) T1
  have M:=iv (vP D) (vP (zL hx D)) (wI D) (wI _) (Z) T1
  rw[jj,jj,if_neg hgp]at h1 M
  rw[j7 e,zw hg,zw h1]
  rw[zw M,xz]
theorem z07(n d:Nat)(h:zL n d≠0):zL (n / zL n d) (d / zL n d)=1:=by
 have:=Nat.gcd_mul_left (zL n d) (n / zL n d) (d / zL n d)
 rw[Nat.mul_div_cancel' (Nat.gcd_dvd_left n d),Nat.mul_div_cancel' (Nat.gcd_dvd_right n d)]at this
 have M:zL n d*zL (n / zL n d) (d / zL n d)=zL n d*1:=Z
 exact qZ (zO h) M
theorem SE(neg:Bool)(n d:Nat):Xm (Xm neg n d).1 (nv (Xm neg n d).2.1) (nv (Xm neg n d).2.2.1)=Xm neg n d:=by
 by_cases h:n=0\/d=0
 ·have e:Xm neg n d=(false,[],[1],()):=by unfold Xm; rw[if_pos h]
  rw[e]; rfl
 ·have e:Xm neg n d=(neg,vP (n / zL n d),vP (d / zL n d),()):=by unfold Xm; rw[if_neg h]
  rw[e]
  have hn:n≠0:=λz=>h (.inl z)
  have J:d≠0:=λz=>h (.inr z)
  have hg:zL n d≠0:=λz=>hn (Nat.gcd_eq_zero_iff.1 z).1
  have h1:n / zL n d≠0:=Nat.div_ne_zero_iff.2 ⟨hg,xF d (zO hn)⟩
  have M:d / zL n d≠0:=Nat.div_ne_zero_iff.2 ⟨hg,Nat.gcd_le_right n (zO J)⟩
  simp only[jj]
  unfold Xm
  rw[if_neg (xy),z07 n d hg,Nat.div_one,Nat.div_one]
def norm(a:Rat):Rat:=Xm a.1 (nv a.2.1) (nv a.2.2.1)
theorem zcR(n k:Nat)(h:(vP n).length<=k):(pr n).length<=18*k+1:=by
 unfold pr
 split
 ·simp
 ·obtain⟨z,hz⟩:=Tv n
  have h1:=BV n k (uG.1 h)
  have M:=congrArg List.length hz
  rw[List.length_append]at M
  rw[TQ]
  simp only[kA,List.length_map,List.length_reverse]
  omega
end Go.AM.Lf
namespace Go.AM
namespace T
variable {α β σ ρ:Type}
theorem oe{t:T α}{Q:α->Prop}:t.wp Q↔∃ a,t.run=some a/\Q a:=⟨λh=>by obtain⟨a,h1,M⟩:=FE h; exact⟨a,yA.2 h1,M⟩,λ⟨a,h1,M⟩=>K1 (yA.1 h1) M⟩
theorem cI{t:T α}{a:α}{Q:α->Prop}(h:t.run=some a)(k:Q a):t.wp Q:=oe.2 ⟨a,h,k⟩
theorem zi{a:α}{Q:α->Prop}(h:Q a):(ret a).wp Q:=h
theorem zf{b:Bool}{t e:T α}{Q:α->Prop}(h1:b=true->t.wp Q)(M:b=false->e.wp Q):(ite b t e).wp Q:=⟨h1,M⟩
theorem um{b:Bool}{t e:T α}{Q:α->Prop}(h:b=true)(k:t.wp Q):(ite b t e).wp Q:=by subst h; exact⟨λ_=>k,nofun⟩
theorem wz{b:Bool}{t e:T α}{Q:α->Prop}(h:b=false)(k:e.wp Q):(ite b t e).wp Q:=by subst h; exact⟨nofun,λ_=>k⟩
theorem zj{p:Prop}{t:T α}{Q:α->Prop}(h:p)(k:t.wp Q):(W p t).wp Q:=⟨h,k⟩
theorem qt{A:Type}{i:Int}{l:List A}{t:T α}{Q:α->Prop}(h:0<=i/\i<(l.length:Int))(k:t.wp Q):(oI i l t).wp Q:=⟨h,k⟩
theorem za{A:Type}{l:List A}{t:T α}{Q:α->Prop}(k:t.wp Q):(U l t).wp Q:=⟨rfl,k⟩
theorem ze{A:Type}{l:List A}{t:T α}{Q:α->Prop}(k:t.wp Q):(oC l t).wp Q:=⟨⟨rfl,rfl,rfl⟩,k⟩
theorem uu{a b:Nat}{t:T α}{Q:α->Prop}(h:a=b)(k:t.wp Q):(oM a b t).wp Q:=⟨⟨h,rfl,h⟩,h,k⟩
theorem u7{A:Type}{l:List A}{k:Nat}{t:T α}{Q:α->Prop}(h:(l.length+1)*k<=140737488355328)(w:t.wp Q):(oA l k t).wp Q:=⟨⟨rfl,rfl,rfl,h⟩,w⟩
theorem vk{a b:zx}{t:T α}{Q:α->Prop}(h:a.length+b.length<=4611686018427387904)(k:t.wp Q):(oK a b t).wp Q:=⟨h,k⟩
theorem xm{t:T α}{f:α->T β}{Q:β->Prop}(h:t.wp λa=>(f a).wp Q):(t.bind f).wp Q:=by
 obtain⟨a,h1,M⟩:=oe.1 h
 obtain⟨b,M,h3⟩:=oe.1 M
 exact cI ((zw h1 f).trans M) h3
theorem we{t:T α}{P Q:α->Prop}(h:t.wp P)(k:∀ a,P a->Q a):t.wp Q:=by
 obtain⟨a,h1,M⟩:=oe.1 h
 exact cI h1 (k a M)
theorem vU{r:σ->T (σ⊕ρ)}{Q:ρ->Prop}(hb:σ->Prop)(μ:σ->Nat){s:σ}(hs:hb s)
  (h:∀ s,hb s->(r s).wp λz=>match z with | .inl s'=>hb s'/\μ s'<μ s | .inr y=>Q y):(loop r s).wp Q:=by
 generalize hm:μ s=m
 induction m using zX generalizing s with
 | _ m ih =>
  obtain⟨z,h1,M⟩:=oe.1 (h s hs)
  cases z with
  | inl s' =>
   obtain⟨a,h3,h4⟩:=oe.1 (ih (μ s') (by have:=M.2; omega) M.1 rfl)
   exact cI ((XU h1).trans h3) h4
  | inr y=>exact cI (pn h1) M
theorem vS{f:α->T σ}{g:β->T σ}{z:α⊕β}{Q:σ->Prop}(h1:∀ a,z=.inl a->(f a).wp Q)(M:∀ b,z=.inr b->(g b).wp Q):(xM f g z).wp Q:=by
 cases z with
 | inl a=>exact h1 a rfl
 | inr b=>exact M b rfl
def le(t t':T α):Prop:=∀ v,t.leads v->t'.leads v
theorem le_rfl{t:T α}:le t t:=λ_ h=>h
theorem z6e{t t':T α}{f f':α->T β}(h:le t t')(k:∀ a,le (f a) (f' a)):le (t.bind f) (t'.bind f'):=λv hv=>by
 obtain⟨a,h1,M⟩:=zd.1 hv
 exact zd.2 ⟨a,h a h1,k a v M⟩
theorem zbY{c:Bool}{t t' e e':T α}(h:le t t')(k:le e e'):le (ite c t e) (ite c t' e'):=λv hv=>hv.imp (λx=>⟨x.1,h v x.2⟩) λx=>⟨x.1,k v x.2⟩
theorem zbZ{p:Prop}{t t':T α}(h:le t t'):le (W p t) (W p t'):=λv hv=>⟨hv.1,h v hv.2⟩
theorem z6g{r r':σ->T (σ⊕ρ)}{s:σ}(h:∀ s,le (r s) (r' s)):le (loop r s) (loop r' s):=λv hv=>by
 obtain⟨n,hn⟩:=(eT _).1 hv
 refine(eT _).2 ⟨n,?_⟩
 clear hv
 induction hn with
 | done k=>exact .done (h _ _ k)
 | step k _ ih=>exact .step (h _ _ k) ih
theorem z6f{f f':α->T σ}{g g':β->T σ}{z:α⊕β}(h:∀ a,le (f a) (f' a))(k:∀ b,le (g b) (g' b)):le (xM f g z) (xM f' g' z):=by
 cases z with
 | inl a=>exact h a
 | inr b=>exact k b
theorem zbX{b b':(σ->T ρ)->σ->T ρ}(h:∀ F F',(∀ y,le (F y) (F' y))->∀ x,le (b F x) (b' F' x))(x:σ):le (fix b x) (fix b' x):=λv hv=>by
 have key:∀ n x,le (Wq b n x) (Wq b' n x):=by
  intro n
  induction n with
  | zero=>exact λ_=>le_rfl
  | succ n ih=>exact h _ _ ih
 obtain⟨n,hn⟩:=(lY b).1 hv
 exact(lY b').2 ⟨n,λm hm=>key m x v (hn m hm)⟩
theorem so{b:(σ->T ρ)->σ->T ρ}(hb:σ->Prop)(μ:σ->Nat)(Q:σ->ρ->Prop)(hm:∀ g g',(∀ y,le (g y) (g' y))->∀ x,le (b g x) (b g' x))
  (h:∀ x,hb x->∀ g:σ->T ρ,(∀ y,hb y->μ y<μ x->(g y).wp (Q y))->(b g x).wp (Q x)) {x:σ} (N:hb x):(fix b x).wp (Q x):=by
 have up:∀ n x,le (Wq b n x) (Wq b (n+1) x):=by
  intro n
  induction n with
  | zero=>exact λ_ _ h=>h.elim
  | succ n ih=>exact hm _ _ ih
 have ups:∀ n m,n<=m->∀ x,le (Wq b n x) (Wq b m x):=by
  intro n m hnm
  induction hnm with
  | refl=>exact λ_=>le_rfl
  | step _ ih=>exact λx v hv=>up _ x v (ih x v hv)
 have key:∀ n x,hb x->μ x<n->(Wq b n x).wp (Q x):=by
  intro n
  induction n with
  | zero=>intro x _ h; omega
  | succ n ih=>exact λx N hn=>h x N _ λy hy wM=>ih y hy (Z)
 obtain⟨a,h1,M⟩:=FE (key _ x N (Nat.lt_succ_self _))
 exact K1 ((lY b).2 ⟨_,λm hm=>ups _ m hm x a h1⟩) M
theorem Gu{t:T α}{Q:α->Prop}{a:α}(h:t.wp Q)(k:t.run=some a):Q a:=by
 obtain⟨b,h1,M⟩:=oe.1 h
 cases h1.symm.trans k
 exact M
class Sp (t:T α) (pre:outParam Prop) (post:outParam (α->Prop)):Prop where sp:pre->t.wp post
theorem z8{t:T α}{f:α->T β}{pre:Prop}{post:α->Prop}{Q:β->Prop}[s:Sp t pre post](h:pre)(k:∀ a,post a->(f a).wp Q):(t.bind f).wp Q :=
 xm (we (s.sp h) k)
theorem vB{t:T α}{pre:Prop}{post:α->Prop}{Q:α->Prop}[s:Sp t pre post](h:pre)(k:∀ a,post a->Q a):t.wp Q:=we (s.sp h) k
end T
open PL Lf
theorem j4(x:Int):qi x=(x+9223372036854775808) % 18446744073709551616-9223372036854775808:=IntKind.wrap_i64 x
theorem ft{a:List Int}(h:qx a)(i:Nat)(x:Int):qx (a.set i (gM x)):=HR h i (by rw[Zf]; omega) (by rw[Zf]; omega)
theorem yI{α:Type}(l:List α):xK 0 (List.take (0+l.length) l)=l:=qz
theorem tO{k:IntKind}:zb (.int k)=0:=rfl
namespace T
theorem go{p:Prop} (h:p:=by
 intros
 repeat' (with_reducible first
  | refine T.zi ?_
  | refine T.zf (λ_ => ?_) (λ_ => ?_)
  | refine T.za ?_
  | refine T.ze ?_
  | refine T.uu ?_ ?_
  | refine T.qt ?_ ?_
  | refine T.u7 ?_ ?_
  | refine T.vk ?_ ?_
  | refine T.zj ?_ ?_
  | refine T.vS (λ_ _ => ?_) (λ_ _ => ?_)
  | refine T.z8 ?_ (λ_ _ => ?_)
  | refine T.vB ?_ (λ_ _ => ?_)
  | refine T.xm ?_
  | dsimp only)
 all_goals grind [xe,uO,eC,jA,QN,j4,ft,vO,vH,gT,yI,fq,tO,List.length_set,List.take_length]):p:=h
theorem mono{p:Prop} (h:p:=by
 intros
 repeat' (with_reducible first
  | exact le_rfl
  | apply_assumption
  | refine z6e ?_ (λ_ => ?_)
  | refine zbY ?_ ?_
  | refine zbZ ?_
  | refine z6g (λ_ => ?_)
  | refine z6f (λ_ => ?_) (λ_ => ?_)
  | refine zbX (λ_ _ _ _ => ?_) _
  | dsimp only[oI,U,oC,oM,oA,oK])):p:=h
theorem lp{σ ρ:Type}{r:σ->T (σ⊕ρ)}{Q:ρ->Prop}(hb:σ->Prop)(μ:σ->Nat){s:σ}(hs:hb s:=by grind)
  (h:∀ s,hb s->(r s).wp λz=>match z with | .inl s'=>hb s'/\μ s'<μ s | .inr y=>Q y:=by
 intros
 repeat' (with_reducible first
  | refine T.zi ?_
  | refine T.zf (λ_ => ?_) (λ_ => ?_)
  | refine T.za ?_
  | refine T.ze ?_
  | refine T.uu ?_ ?_
  | refine T.qt ?_ ?_
  | refine T.u7 ?_ ?_
  | refine T.vk ?_ ?_
  | refine T.zj ?_ ?_
  | refine T.vS (λ_ _ => ?_) (λ_ _ => ?_)
  | refine T.z8 ?_ (λ_ _ => ?_)
  | refine T.vB ?_ (λ_ _ => ?_)
  | refine T.xm ?_
  | dsimp only)
 all_goals grind [xe,uO,eC,jA,QN,j4,ft,vO,vH,gT,yI,fq,tO,List.length_set,List.take_length]):(loop r s).wp Q:=T.vU hb μ hs h
end T
open T
instance (a:List Int):Sp (vY a) (qx a/\a.length<=4000000000) (λr=>qx r/\r.length<=a.length):=⟨λh=>cI (bG a h.1 h.2) ⟨wI _,vL h.1⟩⟩
end Go.AM
namespace Go.AM
open T PL Lf
def rg(a:Lf.Rat):Prop:=qx a.2.1/\qx a.2.2.1
def rl(a:Lf.Rat):Nat:=max a.2.1.length a.2.2.1.length
theorem KL(x:Int):wi x=x % 18446744073709551616:=FF x
def nm(a:Lf.Rat):Prop:=norm a=a
instance (d:List Int) (a:Int) (v:Int) (x3:List Int) (x4 x5:Int) (x6:List Int) (s:Int×Int×List Int):Sp (V5 d a v x3 x4 x5 x6 (x6.length:Int) s) (s.2.1=0/\qx s.2.2/\0<=a/\a+x6.length<=s.2.2.length/\s.2.2.length<=4000000000) (λr=>qx r.2/\r.2.length=s.2.2.length):=⟨λh=>by
 unfold V5 V7
 exact lp (λ(_,i,c)=>0<=i/\i<=x6.length/\qx c/\c.length=s.2.2.length) (λ(_,i,_)=>(x6.length-i).toNat)⟩
instance (d x:List Int) (s:Int×List Int):Sp (V4 d x (x.length:Int) s) (s.1=0/\qx s.2/\s.2.length=d.length+x.length/\s.2.length<=2000000000) (λr=>qx r/\r.length=s.2.length):=⟨λh=>by
 unfold V4 V6
 exact lp (λ(i,c)=>0<=i/\i<=x.length/\qx c/\c.length=s.2.length) (λ(i,_)=>(x.length-i).toNat)⟩
instance (a b:List Int):Sp (iw a b) (qx a/\qx b/\a.length+b.length<=1000000000) (λr=>qx r/\r.length<=a.length+b.length):=⟨λh=>by unfold iw; exact go⟩
instance (a b x:List Int) (s:Int×Int×List Int):Sp (V1 a b x (x.length:Int) s) (s.2.1=0/\qx s.2.2/\s.2.2.length=x.length+1/\s.2.2.length<=2000000000) (λr=>qx r.2/\r.2.length=s.2.2.length):=⟨λh=>by
 unfold V1 V3
 exact lp (λ(_,i,c)=>0<=i/\i<=x.length/\qx c/\c.length=s.2.2.length) (λ(_,i,_)=>(x.length-i).toNat)⟩
instance (a b:List Int):Sp (Ua a b) (qx a/\qx b/\a.length+b.length<=1000000000) (λr=>qx r/\r.length<=max a.length b.length+1):=⟨λh=>by unfold Ua; exact go⟩
instance (a b:List Int):Sp (sP a b) (qx a/\qx b/\a.length+b.length<=1000000000) (λr=>r=DT (nv a) (nv b)):=⟨λh=>cI (JJ a b h.1 h.2.1 (Z) (Z)) rfl⟩
instance (b x:List Int) (s:Int×Int×List Int):Sp (V9 b x (x.length:Int) s) (s.2.1=0/\qx s.2.2/\s.2.2.length=x.length/\s.2.2.length<=2000000000) (λr=>qx r/\r.length=s.2.2.length):=⟨λh=>by
 unfold V9 Va kX
 exact lp (λ(_,i,c)=>0<=i/\i<=x.length/\qx c/\c.length=s.2.2.length) (λ(_,i,_)=>(x.length-i).toNat)⟩
instance (a b:List Int):Sp (Ud a b) (qx a/\qx b/\a.length+b.length<=1000000000) (λr=>qx r.1/\r.1.length<=a.length):=⟨λh=>by unfold Ud; exact go⟩
instance (a:Int):Sp (iA a) (0<=a/\a<18446744073709551616) (λr=>qx r/\r.length<=2/\r=vP a.toNat):=⟨λh=>by
 obtain⟨n,rfl⟩:=qN h.1
 exact cI (V8 n (Z)) ⟨wI _,uG.2 (Z),rfl⟩⟩
instance (a b:List Int):Sp (XV a b) (qx a/\qx b/\a.length+b.length<=100000000) (λr=>r=vP (zL (nv a) (nv b))/\qx r/\r.length<=a.length+b.length):=⟨λh=>cI (JK a b h.1 h.2.1 (Z) (Z)) ⟨rfl,wI _,by
 have h1:=vL h.1
 have M:=vL h.2.1
 by_cases e:nv a=0
 ·rw[e,Nat.gcd_zero_left]; omega
 ·have:=dO (xF (nv b) (zO e)); omega⟩⟩
instance (a:List Int):Sp (mc a) (qx a/\a.length<=1000000) (λr=>r.length<=18*a.length+1):=⟨λh=>cI (H4 a h.1 h.2) (zcR _ _ (vL h.1))⟩
instance (a b:List Int):Sp (dv a b) (qx a/\qx b/\a.length+b.length<=100000000) (λr=>qx r.1/\qx r.2.1/\r.1.length<=a.length/\r.2.1.length<=a.length):=⟨λh=>cI (iv a b h.1 h.2.1 (Z) (Z)) (by
 have h1:=vL h.1
 split
 ·exact⟨vH,vH,xB _,xB _⟩
 ·exact⟨wI _,wI _,zQ (dO (qK _ _)) h1,zQ (dO (Nat.mod_le _ _)) h1⟩)⟩
instance (g:Bool) (n d:List Int):Sp (rR g n d) (qx n/\qx d/\n.length+d.length<=100000000) (λr=>rg r/\rl r<=max 1 (max n.length d.length)/\nm r/\r=Xm g (nv n) (nv d)):=⟨λh=>cI (Lt g n d h.1 h.2.1 (Z) (Z)) (by
 have:=z8A g (nv n) (nv d) (max 1 (max n.length d.length)) (Z) (by have:=vL h.1; omega) (by have:=vL h.2.1; omega)
 exact⟨⟨this.1,this.2.1⟩,by unfold rl; have:=this.2.2; omega,SE _ _ _,rfl⟩)⟩
instance (a:Lf.Rat):Sp (vF a) (rg a/\rl a<=50000000) (λr=>rg r/\rl r<=max 1 (rl a)/\nm r/\r=norm a):=⟨λh=>by unfold rg rl at h; unfold vF norm; refine z8 (xy) λr h=>h⟩
theorem gor{p:Prop} (h:p:=by
 intros
 repeat' (with_reducible first
  | refine T.zi ?_
  | refine T.zf (λ_ => ?_) (λ_ => ?_)
  | refine T.za ?_
  | refine T.ze ?_
  | refine T.uu ?_ ?_
  | refine T.qt ?_ ?_
  | refine T.u7 ?_ ?_
  | refine T.vk ?_ ?_
  | refine T.zj ?_ ?_
  | refine T.vS (λ_ _ => ?_) (λ_ _ => ?_)
  | refine T.z8 ?_ (λ_ _ => ?_)
  | refine T.vB ?_ (λ_ _ => ?_)
  | refine T.xm ?_
  | dsimp only)
 all_goals grind [xe,uO,eC,jA,QN,j4,ft,vO,vH,gT,yI,fq,tO,List.length_set,List.take_length,rg,rl,KL]):p:=h
instance (a:Lf.Rat):Sp (cz a) (rg a/\rl a<=50000000) (λr=>r=false->rl (norm a)<=16):=⟨λh=>by unfold cz; exact gor⟩
instance (a b:Lf.Rat):Sp (oR a b) (rg a/\rg b/\rl a+rl b<=20000000) (λr=>rg r/\rl r<=rl a+rl b+2/\nm r):=⟨λh=>by unfold oR; exact gor⟩
instance (a b:Lf.Rat):Sp (oQ a b) (rg a/\rg b/\rl a+rl b<=20000000) (λr=>rg r/\rl r<=rl a+rl b+3/\nm r):=⟨λh=>by unfold oQ; exact gor⟩
instance (a:Lf.Rat):Sp (Q3 a) (rg a/\rl a<=50000000) (λr=>rg r/\rl r<=max 1 (rl a)):=⟨λh=>by unfold Q3 Vh; exact gor⟩
instance (a b:Lf.Rat):Sp (Uv a b) (rg a/\rg b/\rl a+rl b<=10000000) (λr=>rg r/\rl r<=rl a+rl b+4/\nm r):=⟨λh=>by unfold Uv; exact gor⟩
instance (a:Lf.Rat):Sp (iL a) (rg a/\rl a<=50000000) (λ_=>True):=⟨λh=>by unfold iL; exact gor⟩
instance (a b:Lf.Rat):Sp (KE a b) (rg a/\rg b/\rl a+rl b<=10000000) (λ_=>True):=⟨λh=>by unfold KE; exact gor⟩
instance (a:Int):Sp (yW a) (-9223372036854775808<=a/\a<=9223372036854775807) (λr=>rg r/\rl r<=2):=⟨λh=>by unfold yW; exact gor⟩
instance (a b:Lf.Rat):Sp (sU a b) (rg a/\rg b/\rl a+rl b<=10000000) (λr=>rg r.1/\rl r.1<=rl a+rl b+4/\(r.2=true->nm r.1)):=⟨λh=>by unfold sU; exact gor⟩
end Go.AM
namespace Go.AM
open T PL Lf
theorem LW(x:Int):wu8 x=x % 256:=IntKind.wrap_u8 x
theorem sN(a:zx)(h:wL a []=false):1<=a.length:=by
 cases a with
 | nil=>exact absurd h (xn)
 | cons=>simp
theorem X9(a b:zx):(cat a b).length=a.length+b.length:=List.length_append
theorem RX(l h:Int)(a:zx):(fK l h a).length<=a.length:=by unfold fK; simp; omega
theorem z1W(a p:zx):(D9 a p).length<=a.length:=by unfold D9; split<;>simp
theorem zcB(n:Nat):∀ s:zx,(CX s n).length=s.length*n:=by
 induction n with
 | zero=>simp[CX]
 | succ n ih=>intro s; rw[CX,List.length_append,ih,Nat.mul_succ]; omega
theorem MW(l h:Int)(a:zx)(h0:0<=l)(h1:l<=h)(M:h<=a.length):((fK l h a).length:Int)=h-l:=by unfold fK; simp; omega
theorem Wp(x:Lf.Rat):(x.1,x.2.1,x.2.2.1,())=x:=rfl
theorem Y9(e:Expr):Expr.mk e.kind ((Expr.num e).1,(Expr.num e).2.1,(Expr.num e).2.2.1,()) e.name e.kids=e:=by cases e; rfl
theorem UQ(s:zx)(i:Int):0<=uv s i/\uv s i<256:=by unfold uv; have:=(s.getD i.toNat 0).toNat_lt; omega
theorem lq{p:Prop} (h:p:=by
 intros
 repeat' (with_reducible first
  | refine T.zi ?_
  | refine T.zf (λ_ => ?_) (λ_ => ?_)
  | refine T.za ?_
  | refine T.ze ?_
  | refine T.uu ?_ ?_
  | refine T.qt ?_ ?_
  | refine T.u7 ?_ ?_
  | refine T.vk ?_ ?_
  | refine T.zj ?_ ?_
  | refine T.vS (λ_ _ => ?_) (λ_ _ => ?_)
  | refine T.z8 ?_ (λ_ _ => ?_)
  | refine T.vB ?_ (λ_ _ => ?_)
  | refine T.xm ?_
  | dsimp only)
 all_goals grind [xe,uO,eC,jA,QN,j4,ft,vO,vH,gT,yI,fq,tO,List.length_set,List.take_length,rg,rl,KL,LW,X9,RX,z1W,zcB,MW,UQ,wL,lh,sN]):p:=h
theorem lps{σ ρ:Type}{r:σ->T (σ⊕ρ)}{Q:ρ->Prop}(hb:σ->Prop)(μ:σ->Nat){s:σ}(hs:hb s:=by grind [xe,uO,eC,jA,QN,j4,ft,vO,vH,gT,yI,fq,tO,List.length_set,List.take_length,rg,rl,KL,LW,X9,RX,z1W,zcB,MW,UQ,wL,lh,sN])
  (h:∀ s,hb s->(r s).wp λz=>match z with | .inl s'=>hb s'/\μ s'<μ s | .inr y=>Q y:=by
 intros
 repeat' (with_reducible first
  | refine T.zi ?_
  | refine T.zf (λ_ => ?_) (λ_ => ?_)
  | refine T.za ?_
  | refine T.ze ?_
  | refine T.uu ?_ ?_
  | refine T.qt ?_ ?_
  | refine T.u7 ?_ ?_
  | refine T.vk ?_ ?_
  | refine T.zj ?_ ?_
  | refine T.vS (λ_ _ => ?_) (λ_ _ => ?_)
  | refine T.z8 ?_ (λ_ _ => ?_)
  | refine T.vB ?_ (λ_ _ => ?_)
  | refine T.xm ?_
  | dsimp only)
 all_goals grind [xe,uO,eC,jA,QN,j4,ft,vO,vH,gT,yI,fq,tO,List.length_set,List.take_length,rg,rl,KL,LW,X9,RX,z1W,zcB,MW,UQ,wL,lh,sN]):(loop r s).wp Q:=T.vU hb μ hs h
instance (c:Int) (a:zx):Sp (gX c a) (a.length<=1000000000) (λr=>r.length<=a.length):=⟨λh=>by
 unfold gX gY
 exact lps (λs=>s.length<=a.length) (λs=>s.length)⟩
instance (c:Int) (a:zx):Sp (bE c a) (a.length<=1000000000) (λr=>r.length<=a.length):=⟨λh=>by
 unfold bE bF
 exact lps (λs=>s.length<=a.length) (λs=>s.length)⟩
instance (c:den (mO .bool 256)) (a:zx):Sp (jI c a) (a.length<=1000000000) (λr=>r.length<=a.length):=⟨λh=>by
 unfold jI uC vf
 exact lps (λs=>s.length<=a.length) (λs=>s.length)⟩
instance (c:den (mO .bool 256)) (a:zx):Sp (kv c a) (a.length<=1000000000) (λr=>r.length<=a.length):=⟨λh=>by
 unfold kv uW vf
 exact lps (λs=>s.length<=a.length) (λs=>s.length)⟩
def z2w(a:zx):Bool:=decide (a.length<=1000)&&a.all λx=>decide (x.toNat<128)
theorem z2x:z2w [48,49,50,51,52,53,54,55,56,57]=true:=xn
instance (b a:zx):Sp (cj b a) (b.length<=1000000000/\z2w a=true) (λr=>r.length<=b.length):=⟨λh=>by
 unfold cj strings_trimRightByte strings_trimLeftByte strings_makeASCIISet ju jP
 simp only[z2w,Bool.and_eq_true,decide_eq_true_eq,List.all_eq_true]at h
 exact lq⟩
instance (a:zx) (s:List Int×Int):Sp (ZT a (a.length:Int) s) (a.length<=100000/\s=([],0)) (λr=>qx r/\r.length<=2*a.length+1):=⟨λh=>by
 unfold ZT ZU
 exact lps (λ(l,i)=>qx l/\0<=i/\i<=a.length/\(l.length:Int)<=2*i+1) (λ(_,i)=>(a.length-i).toNat)⟩
instance (a:zx):Sp (mb a) (a.length<=1000000000) (λr=>qx r.1/\r.1.length<=801):=⟨λh=>by have:=z2x; unfold mb; exact lq⟩
instance (n:Int) (s:List Int×Int):Sp (WR n s) (n<=100000/\qx s.1/\s.1.length<=2/\s.2=0) (λr=>qx r/\r.length<=2+2*n.toNat):=⟨λh=>by
 unfold WR WS
 exact lps (λ(l,i)=>qx l/\0<=i/\(i<=n\/i=0)/\(l.length:Int)<=2+2*i) (λ(_,i)=>(n-i).toNat)⟩
instance (n:Int):Sp (VJ n) (n<=100000) (λr=>qx r/\r.length<=2+2*n.toNat):=⟨λh=>by unfold VJ; exact lq⟩
instance (a:zx) (n:Int):Sp (sD a n) (0<=n/\n<=100000/\a.length<=1000000000) (λr=>r.length<=a.length+n.toNat+2):=⟨λh=>by unfold sD strings_Repeat; exact lq⟩
instance (a:Lf.Rat):Sp (QO a) True (λr=>r.length<=1):=⟨λ_=>by unfold QO; exact lq⟩
instance (a:Lf.Rat):Sp (gv a) (rg a/\rl a<=500000) (λr=>r.length<=40*rl a+50):=⟨λh=>by unfold gv; exact lq⟩
instance (a b:zx):Sp (strings_Cut a b) (a.length<=1000000000) (λr=>r.1.length+r.2.1.length<=a.length):=⟨λh=>by
 unfold strings_Cut DY
 exact T.zj (Z) (T.zi (by split<;>simp<;>omega))⟩
instance (a b:zx):Sp (strings_CutPrefix a b) True (λr=>r.1.length<=a.length):=⟨λh=>by unfold strings_CutPrefix; exact lq⟩
instance (a:zx):Sp (pj a) True (λr=>rg r.1/\rl r.1<=1700):=⟨λh=>by unfold pj; exact lq⟩
instance (s:Int×Lf.Rat):Sp (Zp s) (s.1=0/\rg s.2/\rl s.2<=5000) (λr=>match r with | .inl _=>True | .inr z=>z.1.length<=18*rl s.2+2280):=⟨λh=>by
 unfold Zp Zq
 exact lps (λ(i,a)=>0<=i/\i<=61/\a=s.2) (λ(i,_)=>(61-i).toNat)⟩
instance (a:Lf.Rat):Sp (tM a) (rg a/\rl a<=5000) (λr=>r.1.length<=18*rl a+2300):=⟨λh=>by unfold tM; exact lq⟩
theorem z4V(a:Lf.Rat)(h:rg a)(h1:UC a.2.1)(M:UC a.2.2.1)(h3:a.2.2.1≠[])(h4:a.1=true->a.2.1≠[])(h5:zL (nv a.2.1) (nv a.2.2.1)=1):nm a:=by
 unfold nm norm Xm
 obtain⟨b,n,d,u⟩:=a
 by_cases hn:nv n=0
 ·have:n=[]:=by rcases Decidable.em (n=[])with e | e; exact e; exact absurd hn (Lh h.1 h1 e)
  subst this
  simp at h5 h4 ⊢
  have e:vP (nv d)=d:=CP h.2 M
  rw[h5,OK]at e
  simp[h4,<- e]
 ·rw[if_neg (by have:=Lh h.2 M h3; simp[hn,this])]
  simp only[h5,Nat.div_one]
  rw[CP h.1 h1,CP h.2 M]
instance (a:List Int):Sp (ZS a) (a.length<=1000000000) (λr=>r=true->UC a):=⟨λh=>by
 unfold ZS
 refine T.zj (λh1 => ?_) (T.zi λM x N => ?_)
 ·rw[qp (Z) (Z)]; grind [xe]
 ·obtain⟨l,rfl⟩:=List.getLast?_eq_some_iff.1 N
  rw[qp (Z) (Z),show zb (.int .u32)=(0:Int)from rfl,F3]at M
  have:(l.length:Int)+1=0\/x≠0:=by simpa using M
  omega⟩
instance (a:Lf.Rat):Sp (tz a) (rg a/\rl a<=5000000) (λr=>r=true->nm a):=⟨λh=>by
 have:¬ UC a.2.1\/¬ UC a.2.2.1\/a.2.2.1.length=0\/(a.1=true/\a.2.1.length=0)\/zL (nv a.2.1) (nv a.2.2.1)≠1\/nm a:=by
  have:=z4V a h.1
  simp only[xD]; grind
 have e:∀ g,DT (nv (vP g)) (nv (vP (Int.toNat 1)))=0->g=1:=λg h=>by rw[jj,jj]at h; unfold DT at h; grind
 unfold tz
 exact lq⟩
end Go.AM
namespace Go.AM
open T PL Lf
def ixR{α:Type}(d0:α)(b:List α)(d:α->T Bool)(e:Int):Int->T (Int⊕(Unit⊕Int))
 | a=>.ite (decide (a<e)) (oI a b<|T.bind (d (nth b a d0)) λc=>.ite c (.ret (.inr (.inr a))) (.ret (.inl (qi (a+1))))) (.ret (.inr (.inl ())))
theorem xw{α:Type}{l:List α}{i:Int}{d:α}(h0:0<=i)(h:i<l.length):nth l i d∈l:=by
 unfold nth
 rw[zP,List.getElem?_eq_getElem (Z)]
 exact List.getElem_mem _
theorem Ky{α:Type}{l:List α}{x d:α}(h:x∈l):∃ i:Int,0<=i/\i<l.length/\nth l i d=x:=by
 obtain⟨k,hk,rfl⟩:=List.getElem_of_mem h
 exact⟨k,Z,Z,by unfold nth; simp[hk]⟩
theorem zgB{α:Type}(d0:α)(l:List α)(c:α->T Bool)(R:l.length<=1000000000000)(hc:∀ x∈l,(c x).wp λ_=>True) :
  (T.loop (ixR d0 l c l.length) 0).wp λr=>match r with | .inl _=>∀ x∈l,(c x).run=some false | .inr i=>0<=i/\i<l.length/\(c (nth l i d0)).run=some true:=by
 refine T.vU (λi:Int=>0<=i/\i<=l.length/\∀ j:Int,0<=j->j<i->(c (nth l j d0)).run=some false) (λi:Int=>(l.length-i).toNat) (xy) λi ⟨h0,h1,M⟩ => ?_
 refine T.zf (λh => ?_) λh => ?_
 ·have h:=uB h
  refine T.qt ⟨h0,h⟩ (T.xm ?_)
  obtain⟨b,I,_⟩:=T.oe.1 (hc _ (xw (d:=d0) h0 h))
  refine T.cI I (T.zf (λe=>T.zi ⟨h0,h,e▸I⟩) λe=>T.zi ?_)
  rw[qp (Z) (Z)]
  refine⟨⟨Z,Z,λj hj hji => ?_⟩,Z⟩
  by_cases e':j=i
  ·subst e'; exact e▸I
  ·exact M j hj (Z)
 ·refine T.zi λx N => ?_
  obtain⟨j,hj,MJ,rfl⟩:=Ky (d:=d0) N
  have h:=hJ h
  exact M j hj (Z)
def Ixp{α:Type}(l:List α)(c:α->T Bool)(d0:α)(r:Int):Prop:=(r = -1/\∀ x∈l,(c x).run=some false)\/(0<=r/\r<l.length/\(c (nth l r d0)).run=some true)
theorem zbU{α:Type}{d0:α}{l:List α}{c:α->T Bool}(h:l.length<=1000000000000/\∀ x∈l,(c x).wp λ_=>True) :
  (T.bind (T.loop (ixR d0 l c l.length) 0)<|xM (λ_=>T.ret (-1:Int)) λb=>T.ret b).wp (Ixp l c d0) :=
 T.xm (T.we (zgB d0 l c h.1 h.2) λr hr=>by
  cases r with
  | inl _=>exact .inl ⟨rfl,hr⟩
  | inr i=>exact .inr hr)
def Hn{α:Type}(l:List α)(P:α->Bool->Prop)(d0:α)(r:Int):Prop:=(r = -1/\∀ x∈l,P x false)\/(0<=r/\r<l.length/\P (nth l r d0) true)
def Dh{α:Type}(l:List α)(P:α->Bool->Prop)(r:Bool):Prop:=(r=false/\∀ x∈l,P x false)\/(r=true/\∃ x∈l,P x true)
theorem ixq{α:Type}{d0:α}{l:List α}{c:α->T Bool}{p:α->Prop}{P:α->Bool->Prop}[s:∀ x,Sp (c x) (p x) (P x)](h:l.length<=1000000000000/\∀ x∈l,p x) :
  (T.bind (T.loop (ixR d0 l c l.length) 0)<|xM (λ_=>T.ret (-1:Int)) λb=>T.ret b).wp (Hn l P d0) :=
 T.we (zbU ⟨h.1,λx N=>T.we ((s x).sp (h.2 x N)) λ_ _=>trivial⟩) λ_ hr=>hr.imp (λ⟨e,k⟩=>⟨e,λx N=>T.Gu ((s x).sp (h.2 x N)) (k x N)⟩) λ⟨h1,M,k⟩=>⟨h1,M,T.Gu ((s _).sp (h.2 _ (xw h1 M))) k⟩
theorem cnq{α:Type}{d0:α}{l:List α}{P:α->Bool->Prop}{t:T Int}(k:t.wp (Hn l P d0)):(T.bind t λa=>T.ret (decide ((0:Int)<=a))).wp (Dh l P) :=
 T.xm (T.we k λa ha=>ha.elim (λ⟨h,k⟩=>.inl ⟨decide_eq_false (Z),k⟩) λ⟨h1,M,k⟩=>.inr ⟨decide_eq_true h1,_,xw h1 M,k⟩)
instance (a:List Switch) (c:Switch->T Bool) (p:Switch->Prop) (P:Switch->Bool->Prop) [∀ x,Sp (c x) (p x) (P x)]:Sp (wa a c) (a.length<=1000000000000/\∀ x∈a,p x) (Hn a P (zb qs)):=⟨ixq⟩
instance (a:List Switch) (c:Switch->T Bool) (p:Switch->Prop) (P:Switch->Bool->Prop) [∀ x,Sp (c x) (p x) (P x)]:Sp (vG a c) (a.length<=1000000000000/\∀ x∈a,p x) (Dh a P):=⟨λh=>cnq (Sp.sp h)⟩
instance (a:List Param) (c:Param->T Bool) (p:Param->Prop) (P:Param->Bool->Prop) [∀ x,Sp (c x) (p x) (P x)]:Sp (vJ a c) (a.length<=1000000000000/\∀ x∈a,p x) (Hn a P (zb qf)):=⟨ixq⟩
instance (a:List Param) (c:Param->T Bool) (p:Param->Prop) (P:Param->Bool->Prop) [∀ x,Sp (c x) (p x) (P x)]:Sp (vQ a c) (a.length<=1000000000000/\∀ x∈a,p x) (Dh a P):=⟨λh=>cnq (Sp.sp h)⟩
instance (a:List eN) (c:eN->T Bool) (p:eN->Prop) (P:eN->Bool->Prop) [∀ x,Sp (c x) (p x) (P x)]:Sp (uV a c) (a.length<=1000000000000/\∀ x∈a,p x) (Hn a P (zb xp)):=⟨ixq⟩
instance (a:List eN) (c:eN->T Bool) (p:eN->Prop) (P:eN->Bool->Prop) [∀ x,Sp (c x) (p x) (P x)]:Sp (yh a c) (a.length<=1000000000000/\∀ x∈a,p x) (Dh a P):=⟨λh=>cnq (Sp.sp h)⟩
instance (a:List dZ) (c:dZ->T Bool) (p:dZ->Prop) (P:dZ->Bool->Prop) [∀ x,Sp (c x) (p x) (P x)]:Sp (gW a c) (a.length<=1000000000000/\∀ x∈a,p x) (Hn a P (zb xl)):=⟨ixq⟩
instance (a:List dZ) (c:dZ->T Bool) (p:dZ->Prop) (P:dZ->Bool->Prop) [∀ x,Sp (c x) (p x) (P x)]:Sp (yi a c) (a.length<=1000000000000/\∀ x∈a,p x) (Dh a P):=⟨λh=>cnq (Sp.sp h)⟩
instance (a:Int):Sp (cu a) True (λ_=>True):=⟨λ_=>by unfold cu; exact lq⟩
instance (a:Int):Sp (bU a) True (λ_=>True):=⟨λ_=>by unfold bU kh; exact lq⟩
instance (a:zx) (s:Int):Sp (ZC a (a.length:Int) s) (s=0/\a.length<=1000000000) (λ_=>True):=⟨λh=>by
 unfold ZC ZE
 exact lps (λ(i:Int)=>0<=i/\i<=a.length) (λ(i:Int)=>(a.length-i).toNat)⟩
instance (a:zx):Sp (uQ a) (a.length<=1000000000) (λr=>r=true->a.length<=24):=⟨λh=>by unfold uQ; exact lq⟩
inductive EW(k:Nat):Expr->Prop
 | mk {kd:Int} {n:Lf.Rat} {s:zx} {l:List Expr}:rg n->rl n<=k->s.length<=k->l.length<=k->(∀ x∈l,EW k x)->EW k (.mk kd n s l)
inductive EO:Nat->Expr->Prop
 | num {n:Lf.Rat} {s:zx}:rg n->rl n<=16->EO 1 (.mk 1 n s [])
 | nam {n:Lf.Rat} {s:zx}:s.length<=24->EO 1 (.mk 2 n s [])
 | neg {n:Lf.Rat} {s:zx} {i:Nat} {a:Expr}:EO i a->EO (i+1) (.mk 7 n s [a])
 | bin {k:Int} {n:Lf.Rat} {s:zx} {i j:Nat} {a b:Expr}:3<=k->k<=6->EO i a->EO j b->EO (i+j+1) (.mk k n s [a,b])
instance (a:Lf.Rat):Sp (ZF a) (rg a/\rl a<=2000000) (λr=>r=true->rl a<=16):=⟨λh=>by have:nm a↔norm a=a:=Iff.rfl; unfold ZF; exact lq⟩
instance (a:Lf.Rat):Sp (mX a) (rg a/\rl a<=2000000) (λ_=>True):=⟨λh=>by unfold mX; exact lq⟩
def arity(k:Int):Nat:=if k=1\/k=2 then 0 else if k=7 then 1 else 2
instance (a:Int):Sp (XO a) True (λr=>0<=r->r=arity a/\1<=a/\a<=7):=⟨λ_=>by unfold XO arity; exact lq⟩
instance (e:Expr):Sp (mW e) (EW 2000000 e) (λr=>r=true->e.kids.length=arity e.kind/\1<=e.kind/\e.kind<=7/\(e.kind=1->rl e.num<=16)/\(e.kind=2->e.name.length<=24)):=⟨λh=>by
 cases h with
 | mk h1 M h3 h4 h5 =>
  unfold mW
  simp only[Expr.kids,Expr.kind,Expr.num,Expr.name]
  exact lq⟩
end Go.AM
namespace Go.AM
open T PL Lf
inductive Wt:Nat->List Expr->Prop
 | nil:Wt 0 []
 | snoc {m n:Nat} {l:List Expr} {a:Expr}:Wt m l->EO n a->Wt (m+n) (l++[a])
theorem mo{α:Type}(l:List α)(i:Int)(d:α)(h0:0<=i)(h:i<l.length):l.take (i+1).toNat=l.take i.toNat++[nth l i d]:=by
 have:(i+1).toNat=i.toNat+1:=Z
 rw[this,zY (Z)]
 unfold nth
 simp[zP,show i.toNat<l.length by omega]
theorem Wt.inv{n:Nat}{l:List Expr}(h:Wt n l):∀ (L:List Expr) (a:Expr),l=L++[a]->∃ i j,n=i+j/\Wt i L/\EO j a:=by
 cases h with
 | nil=>intro L a e; simp at e
 | @snoc m n l a h1 M =>
  intro L b e
  obtain⟨h3,h4⟩:=List.append_inj' e rfl
  subst h3
  cases h4
  exact⟨m,n,rfl,h1,M⟩
theorem Wt.n0{n:Nat}(h:Wt n []):n=0:=by
 generalize e:([]:List Expr)=l at h
 cases h with
 | nil=>rfl
 | snoc h1 M=>simp at e
theorem EO.of{k:Int}{n:Lf.Rat}{s:zx}{l:List Expr}{m:Nat}(h:Wt m l)(R:l.length=arity k)(h1:1<=k)(M:k<=7)(hn:rg n)(h3:k=1->rl n<=16)(h4:k=2->s.length<=24):EO (m+1) (.mk k n s l):=by
 unfold arity at R
 by_cases e1:k=1
 ·subst e1
  obtain rfl:l=[]:=by simpa using R
  rw[h.n0]; exact .num hn (h3 rfl)
 by_cases e2:k=2
 ·subst e2
  obtain rfl:l=[]:=by simpa using R
  rw[h.n0]; exact .nam (h4 rfl)
 by_cases e7:k=7
 ·subst e7
  obtain⟨a,rfl⟩:=List.length_eq_one_iff.1 (by simpa using R)
  obtain⟨i,j,rfl,g1,g2⟩:=h.inv [] a rfl
  rw[g1.n0]
  simpa using EO.neg g2
 ·rw[if_neg (Z),if_neg e7]at R
  match l,R with
  | [a,b],_ =>
  obtain⟨i,j,rfl,g1,g2⟩:=h.inv [a] b rfl
  obtain⟨i',j',rfl,g3,g4⟩:=g1.inv [] a rfl
  rw[g3.n0]
  simpa using EO.bin (Z) (Z) g4 g2
instance (l:List Expr) (g:Expr->Int->Int->T (Bool×Int)) (s:(Int×Unit)×Int×Int):Sp (wv g l (l.length:Int) s)
  (l.length<=2000000/\s.2.1=0/\0<=s.1.1/\s.1.1<32/\0<=s.2.2/\s.2.2<=256/\∀ e∈l,∀ d f:Int,0<=d/\d<=32/\0<=f/\f<=256->(g e d f).wp λr => -1<=r.2/\r.2<f/\(r.1=true->0<=r.2/\EO (f-r.2).toNat e))
  (λr=>match r with | .inl d=>0<=d/\d<=s.2.2/\Wt (s.2.2-d).toNat l | .inr z=>0<=z.1 /\ -1<=z.2/\z.2<=s.2.2):=⟨λh=>by
 unfold wv
 refine T.vU (λ(c,a,d)=>c.1=s.1.1/\0<=a/\a<=l.length/\0<=d/\d<=s.2.2/\Wt (s.2.2-d).toNat (l.take a.toNat)) (λ(_,a,_)=>(l.length-a).toNat) (by
  obtain⟨c,a,d⟩:=s
  dsimp only at *
  have:(d-d).toNat=0:=Z
  rw[h.2.1,this]
  exact⟨rfl,Z,Z,Z,Z,.nil⟩) λ⟨c,a,d⟩ ⟨h1,M,h3,h4,h5,h6⟩ => ?_
 unfold wT mH
 dsimp only at *
 refine T.zf (λe => ?_) λe => ?_
 ·have e:=uB e
  refine T.qt ⟨M,e⟩ (T.xm (T.xm (T.we (h.2.2.2.2.2.2 _ (xw M e) _ _ (by rw[qp (Z) (Z)]; omega)) λr hr => ?_)))
  refine T.zi (T.zf (λe1=>T.zi ⟨M,hr.1,Z⟩) λe1=>T.zi ?_)
  obtain⟨g1,g2⟩:=hr.2.2 (by simpa using e1)
  rw[qp (Z) (Z)]
  dsimp only
  refine⟨⟨h1,Z,Z,g1,Z,?_⟩,Z⟩
  rw[mo l a _ M e,show(s.2.2-r.2).toNat=(s.2.2-d).toNat+(d-r.2).toNat by omega]
  exact .snoc h6 g2
 ·have e:=hJ e
  refine T.zi ⟨h4,h5,?_⟩
  rwa [zI (Z)]at h6⟩
instance (e:Expr) (d l:Int):Sp (ZG e d l) (EW 2000000 e/\0<=d/\d<=32/\0<=l/\l<=256) (λr => -1<=r.2/\r.2<l/\(r.1=true->0<=r.2/\EO (l-r.2).toNat e)):=⟨λh=>by
 unfold ZG
 refine T.so (x:=(e,d,l)) (σ:=Expr×Int×Int) (ρ:=Bool×Int) (λ(e,d,l)=>EW 2000000 e/\0<=d/\d<=32/\0<=l/\l<=256) (λ(e,_,_)=>zR e) (λ(e,_,l) r => -1<=r.2/\r.2<l/\(r.1=true->0<=r.2/\EO (l-r.2).toNat e)) ?_ ?_ h
 ·intro g g' hg x
  unfold ik wS vj wv wT mH
  exact mono
 ·intro⟨e,d,l⟩ ⟨he,h1,M,h3,h4⟩ g hg
  dsimp only at *
  have hn:=he
  cases he with
  | @mk kd n s L g1 g2 g3 g4 g5 =>
  have hk:∀ e∈L,∀ d f:Int,0<=d/\d<=32/\0<=f/\f<=256->(g (e,d,f)).wp λr => -1<=r.2/\r.2<f/\(r.1=true->0<=r.2/\EO (f-r.2).toNat e):=λe he d f h=>hg (e,d,f) ⟨g5 e he,h⟩ (by have:=xG he; simp; omega)
  have hs:∀ (f:Int),Sp (wv (λy0 y1 y2=>g (y0,y1,y2)) L (L.length:Int) ((d,()),0,f)) (d<32/\0<=f/\f<=256) (λr=>match r with | .inl z=>0<=z/\z<=f/\Wt (f-z).toNat L | .inr z=>0<=z.1 /\ -1<=z.2/\z.2<=f):=λf=>⟨λh=>Sp.sp ⟨g4,rfl,h1,h.1,h.2.1,h.2.2,hk⟩⟩
  have ho:∀ z:Int,Wt (l-1-z).toNat L->L.length=arity kd->1<=kd->kd<=7->(kd=1->rl n<=16)->(kd=2->s.length<=24)->0<=z->z<=l-1->EO (l-z).toNat (.mk kd n s L):=λz h a1 a2 a3 a4 a5 a6 a7=>by
   have:=EO.of h a1 a2 a3 g1 a4 a5
   rwa [show(l-1-z).toNat+1=(l-z).toNat by omega]at this
  unfold ik wS vj
  simp only[Expr.kids]
  rw[qp (Z) (Z)]
  have hi:Sp (mW (.mk kd n s L)) True (λr=>r=true->L.length=arity kd/\1<=kd/\kd<=7/\(kd=1->rl n<=16)/\(kd=2->s.length<=24)):=⟨λ_=>Sp.sp hn⟩
  clear hg hk g5 hn h g1 g2 g3 g4
  exact lq⟩
def EK(e:Expr):Prop:=∃ n,n<=256/\EO n e
instance (e:Expr):Sp (ij e) (EW 2000000 e) (λr=>r=true->EK e):=⟨λh=>by unfold ij EK; exact lq⟩
end Go.AM
namespace Go.AM
open T PL Lf
instance (e:Expr):Sp (lV e) True (λr=>1<=r/\r<=4):=⟨λ_=>by unfold lV; exact lq⟩
instance (e:Expr):Sp (ZH e) (EK e) (λr=>r.length<=665600):=⟨λh=>by
 unfold ZH
 refine T.we (P:=λr=>∀ n,EO n e->r.length<=2600*n) ?_ λr hr=>by obtain⟨n,h1,M⟩:=h; have:=hr n M; omega
 refine T.so (x:=e) (σ:=Expr) (ρ:=zx) (λe=>∃ n,n<=256/\EO n e) (λe=>zR e) (λe r=>∀ n,EO n e->r.length<=2600*n) ?_ ?_ h
 ·intro g g' hg x
  unfold gI dq
  exact mono
 ·intro e ⟨n,hn,he⟩ g hg
  have hs:∀ y,Sp (g y) ((∃ n,n<=256/\EO n y)/\zR y<zR e) (λr=>∀ n,EO n y->r.length<=2600*n):=λy=>⟨λh=>hg y h.1 h.2⟩
  have hp:∀ y f,Sp (dq (λy0=>g y0) y f) ((∃ n,n<=256/\EO n y)/\zR y<zR e) (λr=>∀ n,EO n y->r.length<=2600*n+2):=λy f=>⟨λh=>by
   unfold dq
   clear hg
   exact lq⟩
  clear hg h hs
  cases he with
  | num h1 M =>
   unfold gI
   simp only[Expr.kids,Expr.kind,Expr.num,Expr.name]
   have:∀ {n m s},EO n (.mk 1 m s [])->1<=n:=λh=>by cases h<;>omega
   refine T.xm (T.um rfl ?_)
   exact lq
  | nam h1 =>
   unfold gI
   simp only[Expr.kids,Expr.kind,Expr.num,Expr.name]
   have:∀ {n m s},EO n (.mk 2 m s [])->1<=n:=λh=>by cases h<;>omega
   refine T.xm (T.wz rfl (T.um rfl ?_))
   exact lq
  | @neg m s i a h1 =>
   unfold gI
   simp only[Expr.kids,Expr.kind,Expr.num,Expr.name]
   have M:∀ {n},EO n (.mk 7 m s [a])->∃ j,n=j+1/\EO j a:=λh=>by cases h; exact⟨_,rfl,by assumption⟩
   refine T.xm (T.wz rfl (T.wz rfl (T.um rfl (T.qt ⟨Z,qz⟩ (T.z8 ⟨⟨i,Z,h1⟩,by simp[nth]; omega⟩ λr hr => ?_)))))
   refine T.vk (by have:=hr i h1; simp; omega) (T.zi (T.zi λn hn => ?_))
   obtain⟨j,rfl,hj⟩:=M hn
   have:=hr j hj
   rw[X9]; simp<;>omega
  | @bin k m s i j a b h1 M h3 h4 =>
   unfold gI
   simp only[Expr.kids,Expr.kind,Expr.num,Expr.name]
   have h5:∀ {n},EO n (.mk k m s [a,b])->∃ i j,n=i+j+1/\EO i a/\EO j b:=λh=>by cases h; exact⟨_,_,rfl,by assumption,by assumption⟩
   refine T.xm (T.wz (xy) (T.wz (xy) (T.wz (xy) (T.we (P:=λz=>∃ c:zx,z=.inl c/\c.length<=3) (by clear hp; exact lq) ?_))))
   rintro z ⟨c,rfl,hc⟩
   refine T.qt ⟨Z,by simp<;>omega⟩ (T.z8 trivial λy hy=>T.z8 ⟨⟨i,Z,h3⟩,by simp[nth]; omega⟩ λr hr=>T.vk (by have:=hr i h3; omega) (T.qt ⟨Z,qz⟩ (T.z8 trivial λy hy=>T.z8 ⟨⟨j,Z,h4⟩,by simp[nth]; omega⟩ λr' Dq=>T.vk (by have:=hr i h3; have:=Dq j h4; rw[X9]; omega) (T.zi λn hn => ?_))))
   obtain⟨i',j',rfl,hi,hj⟩:=h5 hn
   have:=hr i' hi
   have:=Dq j' hj
   rw[X9,X9]; omega⟩
instance (e:Expr):Sp (rh e) (EW 2000000 e) (λr=>r.length<=665600):=⟨λh=>by unfold rh; exact lq⟩
end Go.AM
namespace Go.AM.Lf
open T PL
abbrev KK:Nat:=2000000
def FW(k:Nat)(f:Form):Prop :=
 (f.1.length<=k/\∀ x∈f.1,x.1.length<=KK)/\(f.2.1.length<=k/\∀ x∈f.2.1,x.1.length<=KK/\rg x.2.1/\rl x.2.1<=KK)/\(f.2.2.1.length<=k/\∀ x∈f.2.2.1,x.1.length<=KK/\x.2.1.length<=KK) /\
 (f.2.2.2.1.length<=k/\∀ x∈f.2.2.2.1,x.1.length<=KK)/\(f.2.2.2.2.1.length<=k/\∀ x∈f.2.2.2.2.1,x.1.length<=KK/\x.2.2.1.length<=KK/\EW KK x.2.2.2.1/\EW KK x.2.2.2.2.1) /\
 (f.2.2.2.2.2.1.length<=k/\∀ x∈f.2.2.2.2.2.1,x.1.length<=KK/\EW KK x.2.2.2.1/\EW KK x.2.2.2.2.1)
def FO(f:Form):Prop :=
 (∀ x∈f.1,x.1.length<=24)/\(∀ x∈f.2.1,x.1.length<=24/\rl x.2.1<=16)/\(∀ x∈f.2.2.1,x.1.length<=24/\x.2.1.length<=24) /\
 (∀ x∈f.2.2.2.1,x.1.length<=24/\0<=x.2.1/\x.2.1<f.2.2.1.length/\0<=x.2.2.2.1/\x.2.2.2.1<=9)/\(∀ x∈f.2.2.2.2.1,x.1.length<=24/\0<=x.2.1/\x.2.1<4/\x.2.2.1.length<=24/\EK x.2.2.2.1/\EK x.2.2.2.2.1) /\
 (∀ x∈f.2.2.2.2.2.1,x.1.length<=24/\0<=x.2.2.1/\x.2.2.1<3/\EK x.2.2.2.1/\EK x.2.2.2.2.1)
theorem eM{σ ρ α:Type}(l:List α)(d:α)(ix:σ->Int)(A P:α->Prop)(hd:σ->Prop)(hA:∀ x∈l,A x){r:σ->T (σ⊕ρ)}{Q:ρ->Prop}{s:σ}(hs:ix s=0/\hd s)
  (step:∀ s x,hd s->A x->nth l (ix s) d=x->0<=ix s->ix s<l.length->(r s).wp λz=>match z with | .inl s'=>ix s'=ix s+1/\hd s'/\P x | .inr y=>Q y)
  (done:∀ s,hd s->ix s=l.length->(∀ x∈l,P x)->(r s).wp λz=>match z with | .inl _=>False | .inr y=>Q y):(T.loop r s).wp Q:=by
 refine T.vU (λs=>0<=ix s/\ix s<=l.length/\hd s/\∀ j:Int,0<=j->j<ix s->P (nth l j d)) (λs=>(l.length-ix s).toNat) ⟨Z,Z,hs.2,λj h0 h1=>Z⟩ λs ⟨h0,h1,M,h3⟩ => ?_
 by_cases h:ix s<l.length
 ·refine T.we (step s _ M (hA _ (xw h0 h)) rfl h0 h) λz hz => ?_
  cases z with
  | inl s' =>
   obtain⟨e,hj,hp⟩:=hz
   refine⟨⟨Z,Z,hj,λj k0 k1 => ?_⟩,Z⟩
   by_cases e':j=ix s
   ·subst e'; exact hp
   ·exact h3 j k0 (Z)
  | inr y=>exact hz
 ·refine T.we (done s M (Z) λx N => ?_) λz hz => ?_
  ·obtain⟨j,k0,k1,rfl⟩:=Ky (d:=d) N
   exact h3 j k0 (Z)
  ·cases z with
   | inl s'=>exact hz.elim
   | inr y=>exact hz
theorem each{σ ρ α:Type}(l:List α)(d:α)(ix:σ->Int)(A P:α->Prop)(hd:σ->Prop)(hA:∀ x∈l,A x){r:σ->T (σ⊕ρ)}{Q:ρ->Prop}{s:σ}(hs:ix s=0/\hd s:=by grind)
  (step:∀ s x,hd s->A x->nth l (ix s) d=x->0<=ix s->ix s<l.length->(r s).wp λz=>match z with | .inl s'=>ix s'=ix s+1/\hd s'/\P x | .inr y=>Q y:=by
 intros
 repeat' (with_reducible first
  | refine T.zi ?_
  | refine T.zf (λ_ => ?_) (λ_ => ?_)
  | refine T.za ?_
  | refine T.ze ?_
  | refine T.uu ?_ ?_
  | refine T.qt ?_ ?_
  | refine T.u7 ?_ ?_
  | refine T.vk ?_ ?_
  | refine T.zj ?_ ?_
  | refine T.vS (λ_ _ => ?_) (λ_ _ => ?_)
  | refine T.z8 ?_ (λ_ _ => ?_)
  | refine T.vB ?_ (λ_ _ => ?_)
  | refine T.xm ?_
  | dsimp only)
 all_goals grind [xe,uO,eC,jA,vV,j4,Dh,Hn,Y9,Wp,X9])
  (done:∀ s,hd s->ix s=l.length->(∀ x∈l,P x)->(r s).wp λz=>match z with | .inl _=>False | .inr y=>Q y:=by
 intros
 repeat' (with_reducible first
  | refine T.zi ?_
  | refine T.zf (λ_ => ?_) (λ_ => ?_)
  | refine T.za ?_
  | refine T.ze ?_
  | refine T.uu ?_ ?_
  | refine T.qt ?_ ?_
  | refine T.u7 ?_ ?_
  | refine T.vk ?_ ?_
  | refine T.zj ?_ ?_
  | refine T.vS (λ_ _ => ?_) (λ_ _ => ?_)
  | refine T.z8 ?_ (λ_ _ => ?_)
  | refine T.vB ?_ (λ_ _ => ?_)
  | refine T.xm ?_
  | dsimp only)
 all_goals grind):(T.loop r s).wp Q:=eM l d ix A P hd hA hs step done
theorem goq{p:Prop} (h:p:=by
 intros
 repeat' (with_reducible first
  | refine T.zi ?_
  | refine T.zf (λ_ => ?_) (λ_ => ?_)
  | refine T.za ?_
  | refine T.ze ?_
  | refine T.uu ?_ ?_
  | refine T.qt ?_ ?_
  | refine T.u7 ?_ ?_
  | refine T.vk ?_ ?_
  | refine T.zj ?_ ?_
  | refine T.vS (λ_ _ => ?_) (λ_ _ => ?_)
  | refine T.z8 ?_ (λ_ _ => ?_)
  | refine T.vB ?_ (λ_ _ => ?_)
  | refine T.xm ?_
  | dsimp only)
 all_goals grind [xe,uO,eC,jA,j4,Dh,Hn,Y9]):p:=h
instance (x:Switch):Sp (yN x) (x.1.length<=KK) (λr=>r=false->x.1.length<=24):=⟨λh=>by unfold yN; exact lq⟩
instance (x:Param):Sp (yO x) (x.1.length<=KK/\rg x.2.1/\rl x.2.1<=KK) (λr=>r=false->x.1.length<=24/\rl x.2.1<=16):=⟨λh=>by have:nm x.2.1↔norm x.2.1=x.2.1:=Iff.rfl; unfold yO; exact lq⟩
instance (x:zx):Sp (iY x) (x.length<=KK) (λr=>r=true->x.length<=24):=⟨λh=>by unfold iY; exact lq⟩
instance (x:eN):Sp (yP x) (x.1.length<=KK/\x.2.1.length<=KK) (λr=>r=false->x.1.length<=24/\x.2.1.length<=24):=⟨λh=>by unfold yP; exact lq⟩
instance:Sp kZ True (λr=>r.length=4/\∀ s∈r,s.length<=8):=⟨λ_=>by unfold kZ; exact T.zi ⟨rfl,xn⟩⟩
instance:Sp bB True (λr=>r.length=3/\∀ s∈r,s.length<=2):=⟨λ_=>by unfold bB; exact T.zi ⟨rfl,xn⟩⟩
instance (x:dZ):Sp (kY x) (x.1.length<=KK/\x.2.2.1.length<=KK/\EW KK x.2.2.2.1/\EW KK x.2.2.2.2.1) (λr=>r=false->x.1.length<=24/\0<=x.2.1/\x.2.1<4/\x.2.2.1.length<=24/\EK x.2.2.2.1/\EK x.2.2.2.2.1):=⟨λh=>by unfold kY; exact goq⟩
instance (f:Form):Sp (tc f) (FW KK f) (λr=>r=true->(∀ x∈f.1,x.1.length<=24)/\(∀ x∈f.2.1,x.1.length<=24/\rl x.2.1<=16)/\(∀ x∈f.2.2.1,x.1.length<=24/\x.2.1.length<=24)):=⟨λh=>by unfold tc; unfold FW at h; exact goq⟩
instance (a b c:Int):Sp (iX a b c) True (λr=>r=true->0<=a/\a<c):=⟨λ_=>by unfold iX; exact lq⟩
instance (f:Form) (s:Int×Int):Sp (nZ f f.2.2.2.1 (f.2.2.2.1.length:Int) s) (s.2=0/\f.2.2.2.1.length<=KK/\∀ x∈f.2.2.2.1,x.1.length<=KK)
  (λr=>match r with | .inl _=>∀ x∈f.2.2.2.1,x.1.length<=24/\0<=x.2.1/\x.2.1<f.2.2.1.length/\0<=x.2.2.2.1/\x.2.2.2.1<=9 | .inr b=>b=false):=⟨λh=>by
 unfold nZ o0
 exact each f.2.2.2.1 (zb qv) (λ(_,i)=>i) (λx=>x.1.length<=KK) (λx=>x.1.length<=24/\0<=x.2.1/\x.2.1<f.2.2.1.length/\0<=x.2.2.2.1/\x.2.2.2.1<=9) (λ(_,i)=>i<=KK) h.2.2⟩
instance (f:Form) (s:Int×Int):Sp (nX f f.2.2.2.2.2.1 (f.2.2.2.2.2.1.length:Int) s) (s.2=0/\f.2.2.2.2.2.1.length<=KK/\∀ x∈f.2.2.2.2.2.1,x.1.length<=KK/\EW KK x.2.2.2.1/\EW KK x.2.2.2.2.1)
  (λr=>match r with | .inl _=>∀ x∈f.2.2.2.2.2.1,x.1.length<=24/\0<=x.2.2.1/\x.2.2.1<3/\EK x.2.2.2.1/\EK x.2.2.2.2.1 | .inr b=>b=false):=⟨λh=>by
 unfold nX nY
 exact each f.2.2.2.2.2.1 (zb xj) (λ(_,i)=>i) (λx=>x.1.length<=KK/\EW KK x.2.2.2.1/\EW KK x.2.2.2.2.1) (λx=>x.1.length<=24/\0<=x.2.2.1/\x.2.2.1<3/\EK x.2.2.2.1/\EK x.2.2.2.2.1) (λ(_,i)=>i<=KK) h.2.2⟩
open T PL
instance (f:Form):Sp (oU f) (FW 8200 f) (λr=>r=true->∀ x∈f.2.2.2.1,x.1.length<=24/\0<=x.2.1/\x.2.1<f.2.2.1.length/\0<=x.2.2.2.1/\x.2.2.2.1<=9):=⟨λh=>by unfold FW at h; unfold oU; exact goq⟩
instance (f:Form):Sp (oT f) (FW 8200 f) (λr=>r=true->(∀ x∈f.2.2.2.2.1,x.1.length<=24/\0<=x.2.1/\x.2.1<4/\x.2.2.1.length<=24/\EK x.2.2.2.1/\EK x.2.2.2.2.1) /\
 (∀ x∈f.2.2.2.2.2.1,x.1.length<=24/\0<=x.2.2.1/\x.2.2.1<3/\EK x.2.2.2.1/\EK x.2.2.2.2.1)):=⟨λh=>by unfold FW at h; unfold oT; exact goq⟩
def bt(l:List Int):Prop:=∀ n∈l,(0:Int)<=n/\n<256
theorem BX{l:List Int}(h:bt l)(s:zx):bt (l++bytesOf s):=λn hn=>by
 rcases List.mem_append.1 hn with k | k
 ·exact h n k
 ·unfold bytesOf at k
  obtain⟨b,_,rfl⟩:=List.mem_map.1 k
  have:=b.toNat_lt
  omega
theorem Z0(s:zx):(bytesOf s).length=s.length:=by unfold bytesOf; simp
instance (b:zx) (c:List Int):Sp (xo b () c) (c.length+b.length<=140737488355328) (λr=>r.2.2=c++bytesOf b):=⟨λh=>by
 have:=Z0 b
 unfold xo tp vV
 exact goq⟩
def onS(b:Bool):zx:=bif b then[32,111,110,10]else[32,111,102,102,10]
theorem goa{p:Prop} (h:p:=by
 intros
 repeat' (with_reducible first
  | refine T.zi ?_
  | refine T.zf (λ_ => ?_) (λ_ => ?_)
  | refine T.za ?_
  | refine T.ze ?_
  | refine T.uu ?_ ?_
  | refine T.qt ?_ ?_
  | refine T.u7 ?_ ?_
  | refine T.vk ?_ ?_
  | refine T.zj ?_ ?_
  | refine T.vS (λ_ _ => ?_) (λ_ _ => ?_)
  | refine T.z8 ?_ (λ_ _ => ?_)
  | refine T.vB ?_ (λ_ _ => ?_)
  | refine T.xm ?_
  | dsimp only)
 all_goals try simp only[X9,List.length_cons,List.length_nil,Nat.reduceAdd,Nat.zero_add]
 all_goals grind [xe,uO,eC,jA,vV,j4,X9,BX,Z0,Wp,Y9]):p:=h
theorem HB{σ ρ α:Type}(l:List α)(d:α)(ix:σ->Int)(A P:α->Prop)(hd:σ->Prop)(hA:∀ x∈l,A x){r:σ->T (σ⊕ρ)}{Q:ρ->Prop}{s:σ}(hs:ix s=0/\hd s:=by grind)
  (step:∀ s x,hd s->A x->nth l (ix s) d=x->0<=ix s->ix s<l.length->(r s).wp λz=>match z with | .inl s'=>ix s'=ix s+1/\hd s'/\P x | .inr y=>Q y:=by
 intros
 repeat' (with_reducible first
  | refine T.zi ?_
  | refine T.zf (λ_ => ?_) (λ_ => ?_)
  | refine T.za ?_
  | refine T.ze ?_
  | refine T.uu ?_ ?_
  | refine T.qt ?_ ?_
  | refine T.u7 ?_ ?_
  | refine T.vk ?_ ?_
  | refine T.zj ?_ ?_
  | refine T.vS (λ_ _ => ?_) (λ_ _ => ?_)
  | refine T.z8 ?_ (λ_ _ => ?_)
  | refine T.vB ?_ (λ_ _ => ?_)
  | refine T.xm ?_
  | dsimp only)
 all_goals try simp only[X9,List.length_cons,List.length_nil,Nat.reduceAdd,Nat.zero_add]
 all_goals grind [xe,uO,eC,jA,vV,j4,X9,BX,Z0,Wp,Y9])
  (done:∀ s,hd s->ix s=l.length->(∀ x∈l,P x)->(r s).wp λz=>match z with | .inl _=>False | .inr y=>Q y:=by
 intros
 repeat' (with_reducible first
  | refine T.zi ?_
  | refine T.zf (λ_ => ?_) (λ_ => ?_)
  | refine T.za ?_
  | refine T.ze ?_
  | refine T.uu ?_ ?_
  | refine T.qt ?_ ?_
  | refine T.u7 ?_ ?_
  | refine T.vk ?_ ?_
  | refine T.zj ?_ ?_
  | refine T.vS (λ_ _ => ?_) (λ_ _ => ?_)
  | refine T.z8 ?_ (λ_ _ => ?_)
  | refine T.vB ?_ (λ_ _ => ?_)
  | refine T.xm ?_
  | dsimp only)
 all_goals try simp only[X9,List.length_cons,List.length_nil,Nat.reduceAdd,Nat.zero_add]
 all_goals grind [xe,uO,eC,jA,vV,j4,X9,BX,Z0,Wp,Y9]):(T.loop r s).wp Q:=eM l d ix A P hd hA hs step done
instance (a:zx):Sp (sc a) (a.length<=1000000) (λr=>r.length<=a.length+6):=⟨λh=>by unfold sc; exact goa⟩
theorem z14(n:Int)(h0:0<=n)(h:n<1000000000000000000):(Yp n).length<=18:=by
 have key:∀ (k u:Nat),u<10 ^ (k+1)->(DZ u).length<=k+1:=by
  intro k
  induction k with
  | zero=>intro u hu; rw[DZ,dif_pos (Z)]; simp
  | succ k ih =>
   intro u hu
   rw[DZ]
   split
   ·simp
   ·have:=ih (u / 10) (by rw[zF]at hu; omega)
    simp; omega
 unfold Yp
 rw[if_neg (Z)]
 exact key 17 _ (Z)
instance (a:Int):Sp (strconv_Itoa a) (0<=a/\a<1000000000000000000) (λr=>r.length<=18):=⟨λh=>by unfold strconv_Itoa; exact T.zj (Z) (T.zi (z14 _ h.1 h.2))⟩
instance (x:Field):Sp (ta x) (x.1.length<=24/\0<=x.2.2.2.1/\x.2.2.2.1<=9) (λr=>r.length<=80):=⟨λh=>by
 obtain⟨n,p,m,s,u⟩:=x
 unfold ta
 cases m<;>dsimp only[cond_true,cond_false]<;>exact goa⟩
instance (a b:Expr) (s:zx):Sp (nA a s b) (EW KK a/\EW KK b/\s.length<=2) (λr=>r.length<=1331300):=⟨λh=>by unfold nA; exact goa⟩
instance (i:Int) (f:Form) (s:Int×Unit×List Int):Sp (o5 i f f.2.2.2.1 (f.2.2.2.1.length:Int) s) (s.1=0/\f.2.2.2.1.length<=8200/\(∀ x∈f.2.2.2.1,x.1.length<=24/\0<=x.2.1/\x.2.1<f.2.2.1.length/\0<=x.2.2.2.1/\x.2.2.2.1<=9)/\bt s.2.2/\s.2.2.length<=100000000000000)
  (λr=>bt r.2/\r.2.length<=s.2.2.length+80*8200):=⟨λh=>by
 unfold o5 o7
 exact HB f.2.2.2.1 (zb qv) (λ(i,_,_)=>i) _ (λ_=>True) (λ(i,_,c)=>0<=i/\i<=8200/\bt c/\(c.length:Int)<=s.2.2.length+80*i) h.2.2.1⟩
instance (i:Int) (l:List Check) (s:Int×Unit×List Int):Sp (o6 i l (l.length:Int) s) (s.1=0/\l.length<=8200/\(∀ x∈l,x.1.length<=24/\0<=x.2.2.1/\x.2.2.1<3/\EW KK x.2.2.2.1/\EW KK x.2.2.2.2.1)/\bt s.2.2/\s.2.2.length<=100000000000000)
  (λr=>bt r.2/\r.2.length<=s.2.2.length+1331400*8200):=⟨λh=>by
 have hn:∀ (l:List zx) (i:Int),(l.length=3/\∀ s∈l,s.length<=2)->0<=i->i<3->(nth l i (zb .str)).length<=2:=λl i h h0 h1=>h.2 _ (xw h0 (Z))
 unfold o6 o8
 exact HB l (zb xj) (λ(i,_,_)=>i) _ (λ_=>True) (λ(i,_,c)=>0<=i/\i<=8200/\bt c/\(c.length:Int)<=s.2.2.length+1331400*i) h.2.2.1⟩
def FV(f:Form):Prop:=FW 8200 f/\FO f
instance (f:Form) (i:Int) (c:List Int):Sp (oX f i () c) (FV f/\0<=i/\i<f.2.2.1.length/\bt c/\c.length<=91000000000000) (λr=>bt r.2/\r.2.length<=c.length+10920000000):=⟨λh=>by
 have h1:=h.1.2.2.2.1 _ (xw (d:=zb xp) h.2.1 h.2.2.1)
 obtain⟨⟨hw,ho⟩,M⟩:=h
 have h3:=hw.2.2.2.1.1
 have h4:=ho.2.2.2.1
 have h5:=hw.2.2.2.2.2.1
 have h6:=λ(x:Check) N=>(⟨(ho.2.2.2.2.2 x N).1,(ho.2.2.2.2.2 x N).2.1,(ho.2.2.2.2.2 x N).2.2.1,(hw.2.2.2.2.2.2 x N).2⟩:x.1.length<=24/\0<=x.2.2.1/\x.2.2.1<3/\EW KK x.2.2.2.1/\EW KK x.2.2.2.2.1)
 clear hw ho
 unfold oX
 exact goa⟩
instance (f:Form) (s:Int×Unit×List Int):Sp (rX f f.1 (f.1.length:Int) s) (s.1=0/\f.1.length<=8200/\(∀ x∈f.1,x.1.length<=24)/\bt s.2.2/\s.2.2.length<=100) (λr=>bt r.2/\r.2.length<=1000000):=⟨λh=>by
 unfold rX s7
 simp only[show ∀ b:Bool,(bif b then([32,111,110,10]:zx)else[32,111,102,102,10])=onS b from λ_=>rfl]
 have:∀ b,(onS b).length<=5:=xn
 have:([115,119,105,116,99,104,32]:zx).length=7:=rfl
 exact HB f.1 (zb qs) (λ(i,_,_)=>i) _ (λ_=>True) (λ(i,_,c)=>0<=i/\i<=8200/\bt c/\(c.length:Int)<=s.2.2.length+40*i) h.2.2.1⟩
instance (f:Form) (s:Int×Unit×List Int):Sp (rY f f.2.1 (f.2.1.length:Int) s) (s.1=0/\f.2.1.length<=8200/\(∀ x∈f.2.1,x.1.length<=24/\rg x.2.1/\rl x.2.1<=16)/\bt s.2.2/\s.2.2.length<=1000000) (λr=>bt r.2/\r.2.length<=10000000):=⟨λh=>by
 unfold rY s9
 exact HB f.2.1 (zb qf) (λ(i,_,_)=>i) _ (λ_=>True) (λ(i,_,c)=>0<=i/\i<=8200/\bt c/\(c.length:Int)<=s.2.2.length+800*i) h.2.2.1⟩
instance (f:Form) (s:Int×Unit×List Int):Sp (rZ f (f.2.2.1.length:Int) s) (s.1=0/\FV f/\bt s.2.2/\s.2.2.length<=10000000) (λr=>bt r.2/\r.2.length<=90000000000000):=⟨λh=>by
 have hw:=h.2.1.1.2.2.1.1
 unfold rZ sa
 exact HB f.2.2.1 (zb xp) (λ(i,_,_)=>i) (λ_=>True) (λ_=>True) (λ(i,_,c)=>0<=i/\i<=8200/\bt c/\(c.length:Int)<=s.2.2.length+10920000000*i) (λ_ _=>trivial)⟩
instance (l:List dZ) (s:Int×Unit×List Int):Sp (s6 l (l.length:Int) s) (s.1=0/\l.length<=8200/\(∀ x∈l,x.1.length<=24/\0<=x.2.1/\x.2.1<4/\x.2.2.1.length<=24/\EW KK x.2.2.2.1/\EW KK x.2.2.2.2.1)/\bt s.2.2/\s.2.2.length<=90000000000000) (λr=>bt r.2/\r.2.length<=100000000000000):=⟨λh=>by
 have hn:∀ (l:List zx) (i:Int),(l.length=4/\∀ s∈l,s.length<=8)->0<=i->i<4->(nth l i (zb .str)).length<=8:=λl i h h0 h1=>h.2 _ (xw h0 (Z))
 unfold s6 sb
 exact HB l (zb xl) (λ(i,_,_)=>i) _ (λ_=>True) (λ(i,_,c)=>0<=i/\i<=8200/\bt c/\(c.length:Int)<=s.2.2.length+1400000*i) h.2.2.1⟩
instance (f:Form):Sp (ny f) (FV f) (λ_=>True):=⟨λh=>by
 have hv:=h
 have e:bt []:=λ_ h=>nomatch h
 obtain⟨⟨⟨a1,_⟩,⟨a2,b2⟩,_,_,⟨a5,b5⟩,_⟩,c1,c2,_,_,c5,_⟩:=h
 have h1:=λ(x:Param) N=>(⟨(c2 x N).1,(b2 x N).2.1,(c2 x N).2⟩:x.1.length<=24/\rg x.2.1/\rl x.2.1<=16)
 have M:=λ(x:dZ) N=>(⟨(c5 x N).1,(c5 x N).2.1,(c5 x N).2.2.1,(c5 x N).2.2.2.1,(b5 x N).2.2⟩:x.1.length<=24/\0<=x.2.1/\x.2.1<4/\x.2.2.1.length<=24/\EW KK x.2.2.2.1/\EW KK x.2.2.2.2.1)
 have h3:∀ l,bt l->∀ n∈l,(0:Int)<=n/\n<256:=λ_ h=>h
 clear b2 b5 c2 c5
 unfold ny pF z3a oZ
 exact goa⟩
instance (f:Form):Sp (Z9 f) (FW 8200 f) (λr=>r=true->FV f):=⟨λh=>by
 have hk:FW KK f:=by obtain⟨⟨a1,b1⟩,⟨a2,b2⟩,⟨a3,b3⟩,⟨a4,b4⟩,⟨a5,b5⟩,a6,b6⟩:=h; unfold FW KK; exact⟨⟨Z,b1⟩,⟨Z,b2⟩,⟨Z,b3⟩,⟨Z,b4⟩,⟨Z,b5⟩,Z,b6⟩
 unfold Z9
 refine T.z8 hk λb I=>T.zf (λe=>T.z8 h λc hc=>T.zf (λe1=>T.z8 h λd J=>T.zf (λe2 => ?_) λ_=>T.zi nofun) λ_=>T.zi nofun) λ_=>T.zi nofun
 have hv:FV f:=⟨h,(I e).1,(I e).2.1,(I e).2.2,hc e1,J e2⟩
 exact T.z8 hv λ_ _=>T.zi λ_=>hv⟩
open T PL
def ss(l:List zx):Prop:=∀ s∈l,s.length<=KK
theorem z36{a:List zx}(h:ss a){s:zx}(hs:s.length<=KK):ss (a++[s]):=λx N=>by
 rcases List.mem_append.1 N with k | k
 ·exact h x k
 ·rw[qL.1 k]; exact hs
theorem LI:ss []:=λ_ h=>nomatch h
theorem Ej{p:Prop} (h:p:=by
 intros
 repeat' (with_reducible first
  | refine T.zi ?_
  | refine T.zf (λ_ => ?_) (λ_ => ?_)
  | refine T.za ?_
  | refine T.ze ?_
  | refine T.uu ?_ ?_
  | refine T.qt ?_ ?_
  | refine T.u7 ?_ ?_
  | refine T.vk ?_ ?_
  | refine T.zj ?_ ?_
  | refine T.vS (λ_ _ => ?_) (λ_ _ => ?_)
  | refine T.z8 ?_ (λ_ _ => ?_)
  | refine T.vB ?_ (λ_ _ => ?_)
  | refine T.xm ?_
  | dsimp only)
 all_goals grind [xe,uO,eC,jA,vV,j4,Wp,Y9,z36,LI,List.length_append,yI,Dh,Hn]):p:=h
theorem pY{σ ρ α:Type}(l:List α)(d:α)(ix:σ->Int)(A P:α->Prop)(hd:σ->Prop)(hA:∀ x∈l,A x){r:σ->T (σ⊕ρ)}{Q:ρ->Prop}{s:σ}(hs:ix s=0/\hd s:=by grind [LI])
  (step:∀ s x,hd s->A x->nth l (ix s) d=x->0<=ix s->ix s<l.length->(r s).wp λz=>match z with | .inl s'=>ix s'=ix s+1/\hd s'/\P x | .inr y=>Q y:=by
 intros
 repeat' (with_reducible first
  | refine T.zi ?_
  | refine T.zf (λ_ => ?_) (λ_ => ?_)
  | refine T.za ?_
  | refine T.ze ?_
  | refine T.uu ?_ ?_
  | refine T.qt ?_ ?_
  | refine T.u7 ?_ ?_
  | refine T.vk ?_ ?_
  | refine T.zj ?_ ?_
  | refine T.vS (λ_ _ => ?_) (λ_ _ => ?_)
  | refine T.z8 ?_ (λ_ _ => ?_)
  | refine T.vB ?_ (λ_ _ => ?_)
  | refine T.xm ?_
  | dsimp only)
 all_goals grind [xe,uO,eC,jA,vV,j4,Wp,Y9,z36,LI,List.length_append,yI,Dh,Hn])
  (done:∀ s,hd s->ix s=l.length->(∀ x∈l,P x)->(r s).wp λz=>match z with | .inl _=>False | .inr y=>Q y:=by
 intros
 repeat' (with_reducible first
  | refine T.zi ?_
  | refine T.zf (λ_ => ?_) (λ_ => ?_)
  | refine T.za ?_
  | refine T.ze ?_
  | refine T.uu ?_ ?_
  | refine T.qt ?_ ?_
  | refine T.u7 ?_ ?_
  | refine T.vk ?_ ?_
  | refine T.zj ?_ ?_
  | refine T.vS (λ_ _ => ?_) (λ_ _ => ?_)
  | refine T.z8 ?_ (λ_ _ => ?_)
  | refine T.vB ?_ (λ_ _ => ?_)
  | refine T.xm ?_
  | dsimp only)
 all_goals grind):(T.loop r s).wp Q:=eM l d ix A P hd hA hs step done
instance (f:Form) (s:Int×List zx):Sp (pK f f.1 (f.1.length:Int) s) (s.1=0/\f.1.length<=8200/\(∀ x∈f.1,x.1.length<=KK)/\ss s.2/\s.2.length<=100000) (λr=>ss r/\r.length<=s.2.length+f.1.length):=⟨λh=>by
 unfold pK pQ
 exact pY f.1 (zb qs) (λ(i,_)=>i) _ (λ_=>True) (λ(i,c)=>0<=i/\i<=f.1.length/\ss c/\(c.length:Int)<=s.2.length+i) h.2.2.1⟩
instance (f:Form) (s:Int×List zx):Sp (pL f f.2.1 (f.2.1.length:Int) s) (s.1=0/\f.2.1.length<=8200/\(∀ x∈f.2.1,x.1.length<=KK)/\ss s.2/\s.2.length<=100000) (λr=>ss r/\r.length<=s.2.length+f.2.1.length):=⟨λh=>by
 unfold pL pR
 exact pY f.2.1 (zb qf) (λ(i,_)=>i) _ (λ_=>True) (λ(i,c)=>0<=i/\i<=f.2.1.length/\ss c/\(c.length:Int)<=s.2.length+i) h.2.2.1⟩
instance (f:Form) (s:Int×List zx):Sp (pM f f.2.2.1 (f.2.2.1.length:Int) s) (s.1=0/\f.2.2.1.length<=8200/\(∀ x∈f.2.2.1,x.1.length<=KK)/\ss s.2/\s.2.length<=100000) (λr=>ss r/\r.length<=s.2.length+f.2.2.1.length):=⟨λh=>by
 unfold pM pS
 exact pY f.2.2.1 (zb xp) (λ(i,_)=>i) _ (λ_=>True) (λ(i,c)=>0<=i/\i<=f.2.2.1.length/\ss c/\(c.length:Int)<=s.2.length+i) h.2.2.1⟩
instance (f:Form) (s:Int×List zx):Sp (pN f f.2.2.2.1 (f.2.2.2.1.length:Int) s) (s.1=0/\f.2.2.2.1.length<=8200/\(∀ x∈f.2.2.2.1,x.1.length<=KK)/\ss s.2/\s.2.length<=100000) (λr=>ss r/\r.length<=s.2.length+f.2.2.2.1.length):=⟨λh=>by
 unfold pN pT
 exact pY f.2.2.2.1 (zb qv) (λ(i,_)=>i) _ (λ_=>True) (λ(i,c)=>0<=i/\i<=f.2.2.2.1.length/\ss c/\(c.length:Int)<=s.2.length+i) h.2.2.1⟩
instance (f:Form) (s:Int×List zx):Sp (pO f f.2.2.2.2.1 (f.2.2.2.2.1.length:Int) s) (s.1=0/\f.2.2.2.2.1.length<=8200/\(∀ x∈f.2.2.2.2.1,x.1.length<=KK)/\ss s.2/\s.2.length<=100000) (λr=>ss r/\r.length<=s.2.length+f.2.2.2.2.1.length):=⟨λh=>by
 unfold pO pU
 exact pY f.2.2.2.2.1 (zb xl) (λ(i,_)=>i) _ (λ_=>True) (λ(i,c)=>0<=i/\i<=f.2.2.2.2.1.length/\ss c/\(c.length:Int)<=s.2.length+i) h.2.2.1⟩
instance (l:List Check) (s:Int×List zx):Sp (pP l (l.length:Int) s) (s.1=0/\l.length<=8200/\(∀ x∈l,x.1.length<=KK)/\ss s.2/\s.2.length<=100000) (λr=>ss r/\r.length<=s.2.length+l.length):=⟨λh=>by
 unfold pP pV
 exact pY l (zb xj) (λ(i,_)=>i) _ (λ_=>True) (λ(i,c)=>0<=i/\i<=l.length/\ss c/\(c.length:Int)<=s.2.length+i) h.2.2.1⟩
instance (f:Form) (s:Int×List zx):Sp (eP f f.2.2.1 (f.2.2.1.length:Int) s) (s.1=0/\f.2.2.1.length<=8200/\(∀ x∈f.2.2.1,x.2.1.length<=KK)/\ss s.2/\s.2.length<=100000) (λr=>ss r/\r.length<=s.2.length+f.2.2.1.length):=⟨λh=>by
 unfold eP eR
 exact pY f.2.2.1 (zb xp) (λ(i,_)=>i) _ (λ_=>True) (λ(i,c)=>0<=i/\i<=f.2.2.1.length/\ss c/\(c.length:Int)<=s.2.length+i) h.2.2.1⟩
instance (f:Form) (s:Int×List zx):Sp (eQ f f.2.2.2.2.1 (f.2.2.2.2.1.length:Int) s) (s.1=0/\f.2.2.2.2.1.length<=8200/\(∀ x∈f.2.2.2.2.1,x.2.2.1.length<=KK)/\ss s.2/\s.2.length<=100000) (λr=>ss r/\r.length<=s.2.length+f.2.2.2.2.1.length):=⟨λh=>by
 unfold eQ eS
 exact pY f.2.2.2.2.1 (zb xl) (λ(i,_)=>i) _ (λ_=>True) (λ(i,c)=>0<=i/\i<=f.2.2.2.2.1.length/\ss c/\(c.length:Int)<=s.2.length+i) h.2.2.1⟩
instance (f:Form) (s:Int×List zx):Sp (nI f f.2.2.2.1 (f.2.2.2.1.length:Int) s) (s.1=0/\f.2.2.2.1.length<=8200/\(∀ x∈f.2.2.2.1,x.1.length<=KK)/\ss s.2/\s.2.length<=100000) (λr=>ss r/\r.length<=s.2.length+f.2.2.2.1.length):=⟨λh=>by
 unfold nI nK
 exact pY f.2.2.2.1 (zb qv) (λ(i,_)=>i) _ (λ_=>True) (λ(i,c)=>0<=i/\i<=f.2.2.2.1.length/\ss c/\(c.length:Int)<=s.2.length+i) h.2.2.1⟩
instance (f:Form):Sp (sB f) (FV f) (λr=>ss r/\r.length<=50000):=⟨λh=>by
 obtain⟨⟨⟨a1,b1⟩,⟨a2,b2⟩,⟨a3,b3⟩,⟨a4,b4⟩,⟨a5,b5⟩,a6,b6⟩,_⟩:=h
 have b2:=λx N=>(b2 x N).1
 have b3:=λx N=>(b3 x N).1
 have b5:=λx N=>(b5 x N).1
 have b6:=λx N=>(b6 x N).1
 unfold sB oZ
 exact Ej⟩
instance (l:List zx):Sp (sC l) (ss l/\l.length<=50000) (λ_=>True):=⟨λh=>by
 unfold sC
 exact T.zj ⟨Z,λs hs=>zQ (h.1 s hs) (by unfold KK; omega)⟩ (T.zi trivial)⟩
instance (a:Switch) (s:zx):Sp (vT a s) True (λ_=>True):=⟨λ_=>by unfold vT; exact Ej⟩
instance (s:zx) (f:Form):Sp (jS s f) (f.1.length<=8200) (λ_=>True):=⟨λh=>by unfold jS; exact Ej⟩
instance (a:List zx) (c:zx->T Bool) (p:zx->Prop) (P:zx->Bool->Prop) [∀ x,Sp (c x) (p x) (P x)]:Sp (wU a c) (a.length<=1000000000000/\∀ x∈a,p x) (Hn a P (zb .str)):=⟨ixq⟩
instance (a:List zx) (c:zx->T Bool) (p:zx->Prop) (P:zx->Bool->Prop) [∀ x,Sp (c x) (p x) (P x)]:Sp (kE a c) (a.length<=1000000000000/\∀ x∈a,p x) (Dh a P):=⟨λh=>cnq (Sp.sp h)⟩
instance (f:Form):Sp (eE f) (FV f) (λ_=>True):=⟨λh=>by
 obtain⟨⟨⟨a1,b1⟩,⟨a2,b2⟩,⟨a3,b3⟩,⟨a4,b4⟩,⟨a5,b5⟩,a6,b6⟩,_⟩:=h
 have b3:=λx N=>(b3 x N).2
 have b5:=λx N=>(b5 x N).2.1
 unfold eE oZ
 exact Ej⟩
instance (a:List zx) (c:zx) (s:Int):Sp (gp a c (a.length:Int) s) (s=0/\a.length<=1000000) (λr=>match r with | .inl _=>True | .inr i=>0<=i/\i<a.length):=⟨λh=>by
 unfold gp gq
 exact pY a (zb .str) (λ(i:Int)=>i) (λ_=>True) (λ_=>True) (λ(i:Int)=>i<=1000000) (λ_ _=>trivial)⟩
instance (a:List zx) (c:zx):Sp (wD a c) (a.length<=1000000) (λr => -1<=r/\r<a.length):=⟨λh=>by unfold wD; exact Ej⟩
instance (a:List zx) (c:zx):Sp (wK a c) (a.length<=1000000) (λ_=>True):=⟨λh=>by unfold wK; exact Ej⟩
open T PL
theorem _root_.Go.AM.EO.uniq{m:Nat}{e:Expr}(h:EO m e):∀ {n:Nat},EO n e->m=n:=by
 induction h with
 | num=>intro n h; cases h; rfl
 | nam=>intro n h; cases h; rfl
 | neg _ ih =>
  intro n h
  cases h with
  | neg h=>rw[ih h]
 | bin a b _ _ ih jh =>
  intro n h
  cases h with
  | bin _ _ h k=>rw[ih h,jh k]
theorem _root_.Go.AM.EO.ks{n:Nat}{e:Expr}(h:EO n e):(∀ x∈e.kids,∃ k,EO k x)/\(∀ m,Wt m e.kids->m+1=n)/\e.kids.length<=2/\(e.kind=2->e.name.length<=24):=by
 cases h with
 | num=>exact⟨nofun,λm h=>by rw[Wt.n0 h],by simp[Expr.kids],λh=>by simp[Expr.kind]at h⟩
 | nam h=>exact⟨nofun,λm h=>by rw[Wt.n0 h],by simp[Expr.kids],λ_=>h⟩
 | neg h =>
  refine⟨λx N=>⟨_,qL.1 N▸h⟩,λm hm => ?_,by simp[Expr.kids],λh=>by simp[Expr.kind]at h⟩
  obtain⟨i,j,rfl,h1,M⟩:=hm.inv [] _ rfl
  rw[h1.n0,M.uniq h]; omega
 | bin h1 M h3 h4 =>
  refine⟨λx N => ?_,λm hm => ?_,by simp[Expr.kids],λh=>by simp[Expr.kind]at h; omega⟩
  ·rcases xL.1 N with rfl | N
   ·exact⟨_,h3⟩
   ·exact⟨_,qL.1 N▸h4⟩
  ·obtain⟨i,j,rfl,g1,g2⟩:=hm.inv [_] _ rfl
   obtain⟨i',j',rfl,g3,g4⟩:=g1.inv [] _ rfl
   rw[g3.n0,g2.uniq h4,g4.uniq h3]; omega
theorem _root_.Go.AM.Wt.ex{l:List Expr}(h:∀ x∈l,∃ k,EO k x):∃ m,Wt m l:=by
 have:∀ n,n<=l.length->∃ m,Wt m (l.take n):=by
  intro n
  induction n with
  | zero=>exact λ_=>⟨0,by simpa using Wt.nil⟩
  | succ n ih =>
   intro hn
   obtain⟨m,hm⟩:=ih (Z)
   obtain⟨k,hk⟩:=h l[n] (List.getElem_mem (Z))
   rw[zY (Z)]
   exact⟨_,.snoc hm hk⟩
 simpa using this l.length (zJ _)
theorem _root_.Go.AM.Wt.uniq{m:Nat}{l:List Expr}(h:Wt m l):∀ {n:Nat},Wt n l->m=n:=by
 induction h with
 | nil=>intro n h; exact h.n0.symm
 | snoc _ h1 ih =>
  intro n h
  obtain⟨i,j,rfl,g1,g2⟩:=h.inv _ _ rfl
  rw[ih g1,h1.uniq g2]
theorem _root_.Go.AM.Wt.le{m:Nat}{l:List Expr}(h:Wt m l):∀ i,∃ k,Wt k (l.take i)/\k<=m:=by
 induction h with
 | nil=>intro i; exact⟨0,by simpa using Wt.nil,zJ _⟩
 | @snoc m n l a h h1 ih =>
  intro i
  by_cases e:i<=l.length
  ·obtain⟨k,hk,hle⟩:=ih i
   rw[List.take_append_of_le_length e]
   exact⟨k,hk,Z⟩
  ·rw[zI (by simp; omega)]
   exact⟨_,.snoc h h1,zJ _⟩
theorem z8Z{σ ρ:Type}(l:List Expr)(ix:σ->Int)(hd:Nat->σ->Prop){h2:Nat}(hM:Wt h2 l)(hA:∀ x∈l,∃ k,EO k x){r:σ->T (σ⊕ρ)}{Q:ρ->Prop}{s:σ}(hs:ix s=0/\hd 0 s)
  (step:∀ m k s x,hd m s->EO k x->x∈l->m+k<=h2->nth l (ix s) (zb .expr)=x->0<=ix s->ix s<l.length->(r s).wp λz=>match z with | .inl s'=>ix s'=ix s+1/\hd (m+k) s' | .inr y=>Q y)
  (done:∀ s,hd h2 s->ix s=l.length->(r s).wp λz=>match z with | .inl _=>False | .inr y=>Q y):(T.loop r s).wp Q:=by
 refine eM l (zb .expr) ix (λx=>x∈l) (λ_=>True) (λs=>0<=ix s/\∃ m,hd m s/\Wt m (l.take (ix s).toNat)) (λ_ h=>h) ⟨hs.1,Z,0,hs.2,by rw[hs.1]; exact .nil⟩ (λs x ⟨h0,m,h1,M⟩ N he _ R => ?_) λs ⟨h0,m,h1,M⟩ he _ => ?_
 ·obtain⟨k,hk⟩:=hA x N
  have h3:=Wt.snoc M hk
  rw[<- he,<- mo l _ (zb .expr) h0 R]at h3
  obtain⟨k',Ku,hle⟩:=hM.le (ix s+1).toNat
  have:=h3.uniq Ku
  refine T.we (step m k s x h1 hk N (Z) he h0 R) λz hz => ?_
  cases z with
  | inl s'=>exact⟨hz.1,⟨Z,_,hz.2,by rw[hz.1]; exact h3⟩,trivial⟩
  | inr y=>exact hz
 ·rw[he,zA,List.take_length]at M
  exact done s (M.uniq hM▸h1) he
theorem MU{e x:Expr}(h:x∈e.kids):zR x<zR e:=by
 cases e
 have:=xG h
 simp only[Expr.kids]at this
 simp; omega
instance (e:Expr) (a:List zx):Sp (oD e a) (EK e/\ss a/\a.length<=100000) (λr=>ss r/\r.length<=a.length+256):=⟨λh=>by
 obtain⟨⟨n,hn,he⟩,h⟩:=h
 unfold oD
 refine T.we (P:=λr=>∀ n,EO n e->ss r/\r.length<=a.length+n) ?_ λr hr=>⟨(hr n he).1,by have:=(hr n he).2; omega⟩
 refine T.so (x:=(e,a)) (λ(e,a)=>(∃ n,EO n e/\a.length+n<=200000)/\ss a) (λ(e,_)=>zR e) (λ(e,a) r=>∀ n,EO n e->ss r/\r.length<=a.length+n) ?_ ?_ ⟨⟨n,he,Z⟩,h.1⟩
 ·intro g g' hg x
  unfold dm cq eF
  exact mono
 ·intro⟨e,a⟩ ⟨⟨n,he,hn⟩,h1⟩ g hg
  obtain⟨k1,k2,k3,k4⟩:=he.ks
  obtain⟨h2,hM⟩:=Wt.ex k1
  have k2:=k2 h2 hM
  have R:∀ d:List zx,ss d/\d.length<=a.length+1->(cq (λy0 y1=>g (y0,y1)) e.kids (Nat.cast e.kids.length:Int) (0,d)).wp λr=>ss r/\r.length<=a.length+n:=λd J=>by
   unfold cq eF
   refine z8Z e.kids (λ(i,_)=>i) (λm (_,c)=>ss c/\c.length<=a.length+1+m) hM k1 ⟨rfl,J⟩ (λm k ⟨i,c⟩ x hj hk N hle hxe h0 wM => ?_) λ⟨i,c⟩ hj hi => ?_
   ·dsimp only at h0 wM hxe
    refine T.zf (λ_=>T.qt ⟨h0,wM⟩ (T.ze (T.za (T.xm (T.we (hg (nth e.kids i (zb .expr),c) ⟨⟨k,hxe▸hk,by have:=hj.2; omega⟩,hj.1⟩ (MU (hxe▸N))) λr hr=>T.ze (T.za (T.zi ?_))))))) λhf=>absurd wM (hJ hf)
    have:=hr k (hxe▸hk)
    exact⟨qp (Z) (Z),this.1,by have:=hj.2; omega⟩
   ·dsimp only at hi
    refine T.zf (λht=>absurd (uB ht) (Z)) λ_=>T.ze (T.za (T.zi ⟨hj.1,by have:=hj.2; omega⟩))
  have hs:∀ d:List zx,Sp (cq (λy0 y1=>g (y0,y1)) e.kids (Nat.cast e.kids.length:Int) (0,d)) (ss d/\d.length<=a.length+1) (λr=>ss r/\r.length<=a.length+n):=λd=>⟨R d⟩
  have hq:∀ n',EO n' e->n'=n:=λn' h=>h.uniq he
  have k5:e.kind=2->e.name.length<=KK:=λh=>by have:=k4 h; unfold KK; omega
  clear hg R hM k1 k4
  unfold dm
  exact Ej⟩
instance (l:List Expr) (s:Int×List zx):Sp (lW l (l.length:Int) s) (s.1=0/\l.length<=2/\(∀ x∈l,EK x)/\ss s.2/\s.2.length<=50000) (λr=>ss r/\r.length<=s.2.length+512):=⟨λh=>by
 unfold lW lX
 exact pY l (zb .expr) (λ(i,_)=>i) _ (λ_=>True) (λ(i,c)=>0<=i/\i<=2/\ss c/\(c.length:Int)<=s.2.length+256*i) h.2.2.1⟩
theorem EK.ks{e:Expr}(h:EK e):(∀ x∈e.kids,EK x)/\e.kids.length<=2/\(e.kind=2->e.name.length<=KK):=by
 obtain⟨n,hn,he⟩:=h
 obtain⟨k1,k2,k3,k4⟩:=he.ks
 obtain⟨h2,hM⟩:=Wt.ex k1
 refine⟨λx N => ?_,k3,λh=>by have:=k4 h; unfold KK; omega⟩
 obtain⟨k,hk⟩:=k1 x N
 have:=k2 h2 hM
 obtain⟨i,h0,h1,rfl⟩:=Ky (d:=zb .expr) N
 obtain⟨a,ha,ha'⟩:=hM.le i.toNat
 obtain⟨b,I,K9⟩:=hM.le (i+1).toNat
 rw[mo _ _ (zb .expr) h0 h1]at I
 have:=I.uniq (.snoc ha hk)
 exact⟨k,Z,hk⟩
instance (e:Expr) (a:List zx):Sp (mI e a) (EK e/\ss a/\a.length<=10000) (λr=>ss r/\r.length<=a.length+600):=⟨λh=>by
 obtain⟨k1,k2,k3⟩:=EK.ks h.1
 unfold mI
 exact Ej⟩
instance (e:Expr):Sp (dh e) (EK e) (λr=>ss r/\r.length<=600):=⟨λh=>by unfold dh oZ; exact Ej⟩
instance (s:zx) (l:List zx):Sp (bP s l) (l.length<=1000000) (λ_=>True):=⟨λh=>by unfold bP; exact Ej⟩
instance (e:Expr) (l:List zx):Sp (tL e l) (EK e/\l.length<=1000000) (λ_=>True):=⟨λh=>by unfold tL; exact Ej⟩
instance (e:Expr) (l:List zx):Sp (fH e l) (EK e/\l.length<=1000000) (λ_=>True):=⟨λh=>by
 unfold fH
 refine T.so (x:=(e,l)) (λ(e,l)=>EK e/\l.length<=1000000) (λ(e,_)=>zR e) (λ_ _=>True) ?_ ?_ h
 ·intro g g' hg x
  unfold cX ja gV cR yj uY
  exact mono
 ·intro⟨e,l⟩ ⟨he,R⟩ g hg
  obtain⟨k1,k2,k3⟩:=EK.ks he
  have hn:e.kids.length=2->EK (nth e.kids 0 (zb .expr))/\EK (nth e.kids 1 (zb .expr)):=λh=>⟨k1 _ (xw (Z) (Z)),k1 _ (xw (Z) (Z))⟩
  have hc:∀ x,Sp (uY (λy0 y1=>g (y0,y1)) x l) (x∈e.kids) (λ_=>True):=λx=>⟨λN=>T.xm (T.we (hg (x,l) ⟨k1 x N,R⟩ (MU N)) λ_ _=>T.zi trivial)⟩
  have hs:Sp (ja (λy0 y1=>g (y0,y1)) e.kids λx=>uY (λy0 y1=>g (y0,y1)) x l) True (λ_=>True):=⟨λ_=>T.we (cnq (ixq (d0:=zb .expr) (l:=e.kids) (c:=λx=>uY (λy0 y1=>g (y0,y1)) x l) ⟨Z,λ_ h=>h⟩)) λ_ _=>trivial⟩
  clear hg k1 hc
  unfold cX
  exact Ej⟩
instance (a:Param) (s:zx):Sp (uD a s) True (λ_=>True):=⟨λ_=>by unfold uD; exact Ej⟩
instance (s:zx) (l:List zx) (f:Form):Sp (yw s l f) (f.2.1.length<=8200/\l.length<=1000000) (λ_=>True):=⟨λh=>by unfold yw; exact Ej⟩
instance (a b c:List zx):Sp (j8 [a,b,c]) (a.length+b.length+c.length<=1000000000/\ss a/\ss b/\ss c) (λr=>ss r/\r.length=a.length+b.length+c.length):=⟨λh=>by
 unfold j8
 refine T.zj ⟨qz,by simp; omega,qz⟩ (T.zi ⟨λx N => ?_,by simp; omega⟩)
 simp at N
 rcases N with k | k | k
 ·exact h.2.1 x k
 ·exact h.2.2.1 x k
 ·exact h.2.2.2 x k⟩
instance (f:Form) (d:List zx) (s:List zx×Int):Sp (lL f d f.2.2.2.2.2.1 (f.2.2.2.2.2.1.length:Int) s) (s.2=0/\f.2.2.2.2.2.1.length<=8200/\(∀ x∈f.2.2.2.2.2.1,EK x.2.2.2.1/\EK x.2.2.2.2.1)/\ss s.1/\s.1.length<=10) (λr=>ss r/\r.length<=20000000):=⟨λh=>by
 unfold lL lN
 exact pY f.2.2.2.2.2.1 (zb xj) (λ(_,i)=>i) _ (λ_=>True) (λ(c,i)=>0<=i/\i<=8200/\ss c/\(c.length:Int)<=s.1.length+1200*i) h.2.2.1⟩
instance (f:Form) (d:List zx) (s:List zx×Int):Sp (lM f d f.2.2.2.2.1 (f.2.2.2.2.1.length:Int) s) (s.2=0/\f.2.2.2.2.1.length<=8200/\(∀ x∈f.2.2.2.2.1,EK x.2.2.2.1/\EK x.2.2.2.2.1)/\ss s.1/\s.1.length<=20000000) (λr=>ss r/\r.length<=40000000):=⟨λh=>by
 unfold lM lO
 exact pY f.2.2.2.2.1 (zb xl) (λ(_,i)=>i) _ (λ_=>True) (λ(c,i)=>0<=i/\i<=8200/\ss c/\(c.length:Int)<=s.1.length+1200*i) h.2.2.1⟩
theorem FV.fe{f:Form}(h:FV f):(f.2.1.length<=8200/\f.2.2.2.1.length<=8200/\f.2.2.2.2.1.length<=8200/\f.2.2.2.2.2.1.length<=8200)/\(∀ x∈f.2.2.2.2.1,EK x.2.2.2.1/\EK x.2.2.2.2.1)/\(∀ x∈f.2.2.2.2.2.1,EK x.2.2.2.1/\EK x.2.2.2.2.1)/\(∀ x∈f.2.2.2.1,x.1.length<=KK):=by
 obtain⟨⟨_,⟨a2,_⟩,_,⟨a4,b4⟩,⟨a5,_⟩,a6,_⟩,_,_,_,_,c5,c6⟩:=h
 exact⟨⟨a2,a4,a5,a6⟩,λx N=>(c5 x N).2.2.2.2,λx N=>(c6 x N).2.2.2,b4⟩
instance (f:Form) (d:List zx):Sp (mv f d) (FV f/\d.length<=1000000) (λ_=>True):=⟨λh=>by
 obtain⟨h1,M,h3,_⟩:=FV.fe h.1
 unfold mv
 exact Ej⟩
instance (l:List dZ) (s:Int×List zx):Sp (nJ l (l.length:Int) s) (s.1=0/\l.length<=8200/\(∀ x∈l,EK x.2.2.2.1/\EK x.2.2.2.2.1)/\s.2.length<=100000) (λr=>match r with | .inl _=>True | .inr z=>z.1≠0):=⟨λh=>by
 unfold nJ nL
 exact pY l (zb xl) (λ(i,_)=>i) _ (λ_=>True) (λ(i,c)=>0<=i/\i<=8200/\c.length<=100000) h.2.2.1⟩
instance (f:Form):Sp (fI f) (FW 8200 f) (λr=>r.1=0->FV f/\f.2.2.2.1.length<=64/\f.2.2.2.2.1.length<=64):=⟨λh=>by
 have h1:FV f->_:=FV.fe
 unfold fI oZ
 exact Ej⟩
open T PL
instance (f:Form):Sp (sZ f) (FW 8200 f) (λ_=>True):=⟨λh=>by unfold sZ; exact goq⟩
def PI(p:zc):Prop:=p.1.length<=1000000/\0<=p.2.1/\p.2.1<=p.1.length/\0<=p.2.2.1/\p.2.2.1<=31
def PG(p q:zc):Prop:=PI q/\q.1=p.1/\p.2.1<=q.2.1/\q.2.2.1=p.2.2.1
theorem XQ(l:zx)(c:UInt8) : -1<=VZ l c/\VZ l c<l.length:=by
 induction l with
 | nil=>simp[VZ]
 | cons b l ih=>unfold VZ; rw[List.length_cons]; split; omega; split<;>omega
theorem EW0:EW KK (Expr.mk 0 (false,[],[],()) [] []):=.mk ⟨vH,vH⟩ (by simp[rl]) (qz) (qz) nofun
theorem EWn(n:Lf.Rat)(h:rg n/\rl n<=1700):EW KK (Expr.mk 1 n [] []):=.mk h.1 (by unfold KK; omega) (qz) (qz) nofun
theorem EWz:EW KK (Expr.mk 1 (false,[],[],()) [] []):=.mk ⟨vH,vH⟩ (by simp[rl]) (qz) (qz) nofun
theorem EWs(s:zx)(h:s.length<=KK):EW KK (Expr.mk 2 (false,[],[],()) s []):=.mk ⟨vH,vH⟩ (by simp[rl]) h (qz) nofun
theorem EW1(k:Int)(a:Expr)(h:EW KK a):EW KK (Expr.mk k (false,[],[],()) [] [a]):=.mk ⟨vH,vH⟩ (by simp[rl]) (qz) (by unfold KK; simp) (by simpa using h)
theorem EW2(k:Int)(a b:Expr)(h:EW KK a)(g:EW KK b):EW KK (Expr.mk k (false,[],[],()) [] [a,b]):=.mk ⟨vH,vH⟩ (by simp[rl]) (qz) (by unfold KK; simp) (by simpa using⟨h,g⟩)
theorem gop{p:Prop} (h:p:=by
 intros
 repeat' (with_reducible first
  | refine T.zi ?_
  | refine T.zf (λ_ => ?_) (λ_ => ?_)
  | refine T.za ?_
  | refine T.ze ?_
  | refine T.uu ?_ ?_
  | refine T.qt ?_ ?_
  | refine T.u7 ?_ ?_
  | refine T.vk ?_ ?_
  | refine T.zj ?_ ?_
  | refine T.vS (λ_ _ => ?_) (λ_ _ => ?_)
  | refine T.z8 ?_ (λ_ _ => ?_)
  | refine T.vB ?_ (λ_ _ => ?_)
  | refine T.xm ?_
  | dsimp only)
 all_goals grind [xe,uO,eC,jA,j4,Wp,Y9,X9,RX,PI,PG,XQ,EW0,EWn,EWs,EW1,EW2,EWz]):p:=h
theorem lpp{σ ρ:Type}{r:σ->T (σ⊕ρ)}{Q:ρ->Prop}(hb:σ->Prop)(μ:σ->Nat){s:σ}(hs:hb s:=by grind [PI,PG])
  (h:∀ s,hb s->(r s).wp λz=>match z with | .inl s'=>hb s'/\μ s'<μ s | .inr y=>Q y:=by
 intros
 repeat' (with_reducible first
  | refine T.zi ?_
  | refine T.zf (λ_ => ?_) (λ_ => ?_)
  | refine T.za ?_
  | refine T.ze ?_
  | refine T.uu ?_ ?_
  | refine T.qt ?_ ?_
  | refine T.u7 ?_ ?_
  | refine T.vk ?_ ?_
  | refine T.zj ?_ ?_
  | refine T.vS (λ_ _ => ?_) (λ_ _ => ?_)
  | refine T.z8 ?_ (λ_ _ => ?_)
  | refine T.vB ?_ (λ_ _ => ?_)
  | refine T.xm ?_
  | dsimp only)
 all_goals grind [xe,uO,eC,jA,j4,Wp,Y9,X9,RX,PI,PG,XQ,EW0,EWn,EWs,EW1,EW2,EWz]):(T.loop r s).wp Q:=T.vU hb μ hs h
instance (p:zc):Sp (br p) (PI p) (PG p):=⟨λh=>by
 unfold br bu
 exact lpp (PG p) (λq=>(q.1.length-q.2.1).toNat)⟩
instance (e:zx) (p:zc):Sp (uE e p) (PI p) (λr=>PG p r.2/\(r.1=0\/(0<=VZ e (byteOf r.1)/\p.2.1<r.2.2.1))):=⟨λh=>by
 have e1:∀ x:Int,-1000000000<=x->x<=1000000000->qi (qi (x+1)-1)=x:=λx h0 h1=>by rw[qp (x:=x+1) (Z) (Z),qp (Z) (Z)]; omega
 unfold uE dn strings_IndexByte
 exact gop⟩
instance (p:zc):Sp (kC p) (PI p) (λr=>match r with | .inl q=>PI q/\q.1=p.1/\q.2.1=p.2.1/\q.2.2.1=p.2.2.1+1 | .inr z=>z.1.1≠0):=⟨λh=>by
 unfold kC vn
 exact gop⟩
instance (c:Int->T Bool) [∀ x,Sp (c x) True (λ_=>True)] (m f:Int) (p:zc):Sp (bV c m f p) (PI p) (PG p):=⟨λh=>by
 unfold bV yf
 exact lpp (PG p) (λq=>(q.1.length-q.2.1).toNat)⟩
instance (c:Int->T Bool) [∀ x,Sp (c x) True (λ_=>True)] (m:Int) (p:zc):Sp (uF c m p) (PI p) (λr=>PG p r.2/\r.1.length<=1000000):=⟨λh=>by
 unfold uF
 exact gop⟩
instance (a:Int):Sp (kh a) True (λ_=>True):=⟨λ_=>by unfold kh; exact gop⟩
def PR(p:zc)(r:(Expr×zc)⊕(xh×zc)):Prop:=match r with | .inl z=>EW KK z.1/\PG p z.2 | .inr z=>z.1.1≠0
instance (p:zc):Sp (kB p) (PI p) (PR p):=⟨λh=>by
 unfold kB vn PR
 exact gop⟩
def PQ(p:zc)(r:(Expr×zc)⊕(xh×zc)):Prop:=(∀ z,r=.inl z->EW KK z.1/\PG p z.2)/\∀ z,r=.inr z->z.1.1≠0
theorem zdT{p:zc}{r:(Expr×zc)⊕(xh×zc)}(h:PR p r):PQ p r:=⟨λz e=>by subst e; exact h,λz e=>by subst e; exact h⟩
theorem zlV{p:Prop} (h:p:=by
 intros
 repeat' (with_reducible first
  | refine T.zi ?_
  | refine T.zf (λ_ => ?_) (λ_ => ?_)
  | refine T.za ?_
  | refine T.ze ?_
  | refine T.uu ?_ ?_
  | refine T.qt ?_ ?_
  | refine T.u7 ?_ ?_
  | refine T.vk ?_ ?_
  | refine T.zj ?_ ?_
  | refine T.vS (λ_ _ => ?_) (λ_ _ => ?_)
  | refine T.z8 ?_ (λ_ _ => ?_)
  | refine T.vB ?_ (λ_ _ => ?_)
  | refine T.xm ?_
  | dsimp only)
 all_goals grind [xe,uO,eC,jA,j4,PI,PG,PQ,XQ,EW0,EWn,EWs,EW1,EW2,EWz]):p:=h
theorem Rr{g:zc->T ((Expr×zc)⊕(xh×zc))}{a0:Int}{s:zx}(hg:∀ y,PI y/\a0<y.2.1/\y.1=s->(g y).wp (PQ y))(p:zc)(hp:PI p/\a0<=p.2.1/\p.1=s):(vE g p).wp (PQ p):=by
 unfold vE
 refine T.so (x:=p) (λp=>PI p/\a0<=p.2.1/\p.1=s) (λp=>(p.1.length-p.2.1).toNat) (λp r=>PQ p r) ?_ ?_ hp
 ·intro F F' hF x
  unfold ux
  exact mono
 ·intro p hp F hF
  have h1:∀ y,Sp (F y) ((PI y/\a0<=y.2.1/\y.1=s)/\(y.1.length-y.2.1).toNat<(p.1.length-p.2.1).toNat) (PQ y):=λy=>⟨λh=>hF y h.1 h.2⟩
  have M:∀ y,Sp (g y) (PI y/\a0<y.2.1/\y.1=s) (PQ y):=λy=>⟨hg y⟩
  have h3:∀ p,Sp (kB p) (PI p) (PQ p):=λp=>⟨λh=>T.we (Sp.sp h) λ_=>zdT⟩
  clear hF hg
  unfold ux vn
  exact zlV
open T PL
section
variable {g:zc->T ((Expr×zc)⊕(xh×zc))} {a0:Int} {s:zx}
theorem zgE(a b:UInt8):([a,b]:zx).length=2:=rfl
theorem IF{p:Prop} (h:p:=by
 intros
 repeat' (with_reducible first
  | refine T.zi ?_
  | refine T.zf (λ_ => ?_) (λ_ => ?_)
  | refine T.za ?_
  | refine T.ze ?_
  | refine T.uu ?_ ?_
  | refine T.qt ?_ ?_
  | refine T.u7 ?_ ?_
  | refine T.vk ?_ ?_
  | refine T.zj ?_ ?_
  | refine T.vS (λ_ _ => ?_) (λ_ _ => ?_)
  | refine T.z8 ?_ (λ_ _ => ?_)
  | refine T.vB ?_ (λ_ _ => ?_)
  | refine T.xm ?_
  | dsimp only)
 all_goals grind [xe,PG,PQ,PI,XQ,EW0,EW2,zgE]):p:=h
theorem z8G{e:zx}(he:e.length=2)(k:xh)(hk:∀ y,PI y/\a0<=y.2.1/\y.1=s->(vE g y).wp (PQ y))(p:zc)(hp:PI p/\a0<=p.2.1/\p.1=s):(wo g () e k p).wp (PQ p):=by
 have h1:∀ y,Sp (vE g y) (PI y/\a0<=y.2.1/\y.1=s) (PQ y):=λy=>⟨hk y⟩
 clear hk
 have h5:∀ c,VZ e c<2:=λc=>by have:=(XQ e c).2; omega
 have M:∀ z,Sp (vb g e k z) (PG p z.1/\EW KK z.2.2) (λr=>(∀ z,r=.inl z->EW KK z.2.1/\PG p z.1)/\∀ z,r=.inr z->z.1.1≠0):=λz=>⟨λh=>by
  unfold vb
  refine T.vU (λ(q,_,x)=>PG p q/\EW KK x) (λ(q,_,_)=>(q.1.length-q.2.1).toNat) h ?_
  unfold vd strings_IndexByte xe
  exact IF⟩
 unfold wo
 exact IF
theorem Lr(hg:∀ y,PI y/\a0<y.2.1/\y.1=s->(g y).wp (PQ y))(p:zc)(hp:PI p/\a0<=p.2.1/\p.1=s):(vu g p).wp (PQ p):=by
 have h1:∀ e:zx,e.length=2->∀ k,Sp (wo g () e k p) True (PQ p):=λe he k=>⟨λ_=>z8G he k (Rr hg) p hp⟩
 have M:=h1 [42,47] rfl
 clear h1 hg
 unfold vu
 exact IF
theorem z8H{e:zx}(he:e.length=2)(k:xh)(hk:∀ y,PI y/\a0<=y.2.1/\y.1=s->(vu g y).wp (PQ y))(p:zc)(hp:PI p/\a0<=p.2.1/\p.1=s):(wm g () e k p).wp (PQ p):=by
 have h1:∀ y,Sp (vu g y) (PI y/\a0<=y.2.1/\y.1=s) (PQ y):=λy=>⟨hk y⟩
 clear hk
 have h5:∀ c,VZ e c<2:=λc=>by have:=(XQ e c).2; omega
 have M:∀ z,Sp (wV g e k z) (PG p z.1/\EW KK z.2.2) (λr=>(∀ z,r=.inl z->EW KK z.2.1/\PG p z.1)/\∀ z,r=.inr z->z.1.1≠0):=λz=>⟨λh=>by
  unfold wV
  refine T.vU (λ(q,_,x)=>PG p q/\EW KK x) (λ(q,_,_)=>(q.1.length-q.2.1).toNat) h ?_
  unfold wW strings_IndexByte xe
  exact IF⟩
 unfold wm
 exact IF
end
instance (p:zc):Sp (cM p) (PI p) (PQ p):=⟨λh=>by
 unfold cM
 refine T.so (x:=p) PI (λp=>(p.1.length-p.2.1).toNat) PQ ?_ ?_ h
 ·intro g g' hg x
  unfold y6 wm wV wW vu wo vb vd vE ux
  exact mono
 ·intro p hp g hg
  have h1:=z8H (g:=g) (a0:=p.2.1) (s:=p.1) (e:=[43,45]) rfl (3,4,()) (Lr λy h=>hg y h.1 (by grind [PI])) p ⟨hp,Z,rfl⟩
  have M:Sp (wm g () ([43,45]:zx) (3,4,()) p) True (PQ p):=⟨λ_=>h1⟩
  clear hg h1
  unfold y6
  exact IF⟩
instance (s:zx):Sp (rf s) (s.length<=1000000) (λr=>EW KK r.1):=⟨λh=>by
 unfold rf il vn gH yU
 exact IF⟩
open T PL
def wd(l:List zx):Prop:=∀ s∈l,1<=s.length/\s.length<=20000
theorem zdd(c:UInt8):∀ (s cur:zx),cur.length+s.length<=20000->wd (sn c cur s)/\(sn c cur s).length<=s.length+1:=by
 intro s
 induction s with
 | nil=>intro cur h; unfold sn; split; exact⟨nofun,qz⟩; rename_i e; exact⟨λx N=>by rw[qL.1 N]; have:=qT.2 e; simp at h; omega,qz⟩
 | cons b s ih =>
  intro cur h
  rw[List.length_cons]at h
  unfold sn
  split
  ·split
   ·have:=ih [] (by simp; omega); exact⟨this.1,by rw[List.length_cons]; omega⟩
   ·rename_i e
    have:=ih [] (by simp; omega)
    refine⟨λx N => ?_,by simp; omega⟩
    rcases xL.1 N with rfl | N
    ·have:=qT.2 e; omega
    ·exact this.1 x N
  ·have:=ih (cur++[b]) (by simp; omega)
   exact⟨this.1,by rw[List.length_cons]; omega⟩
instance (s:zx):Sp (td s) (s.length<=20000) (λr=>wd r/\r.length<=20001/\(s.length=0->r.length=0)):=⟨λh=>by
 unfold td strings_FieldsFunc
 have:=zdd 32 s [] (by simpa using h)
 refine T.xm (T.zj (Z) (T.zi (T.zi ⟨this.1,Z,λe => ?_⟩)))
 rw[V e]; rfl⟩
theorem RQ(l c:zx) : -1<=rm l c/\rm l c<l.length:=by
 induction l with
 | nil=>simp[rm]
 | cons b l ih=>unfold rm; rw[List.length_cons]; split; omega; split<;>omega
theorem gow{p:Prop} (h:p:=by
 intros
 repeat' (with_reducible first
  | refine T.zi ?_
  | refine T.zf (λ_ => ?_) (λ_ => ?_)
  | refine T.za ?_
  | refine T.ze ?_
  | refine T.uu ?_ ?_
  | refine T.qt ?_ ?_
  | refine T.u7 ?_ ?_
  | refine T.vk ?_ ?_
  | refine T.zj ?_ ?_
  | refine T.vS (λ_ _ => ?_) (λ_ _ => ?_)
  | refine T.z8 ?_ (λ_ _ => ?_)
  | refine T.vB ?_ (λ_ _ => ?_)
  | refine T.xm ?_
  | dsimp only)
 all_goals grind [xe,uO,eC,jA,vV,j4,wd,X9,RX,MW,EW0,Y9,Wp,zgE,Dh,Hn]):p:=h
instance (b:zx):Sp (strings_IndexAny b [60,61]) (b.length<=1000000) (λr => -1<=r/\r<b.length):=⟨λh=>by
 unfold strings_IndexAny
 exact T.zj ⟨Z,qz,qz,xn⟩ (T.zi (RQ _ _))⟩
instance (a b:zx):Sp (strings_HasPrefix a b) True (λr=>r=true->b.length<=a.length):=⟨λ_=>by unfold strings_HasPrefix jX; exact gow⟩
instance (a b:zx):Sp (strings_Contains a b) (a.length<=1000000) (λ_=>True):=⟨λh=>by unfold strings_Contains; exact gow⟩
instance (b v:zx):Sp (dA b v) (b.length<=20000/\v.length<=10) (λr=>EW KK r.1/\EW KK r.2.1):=⟨λh=>by
 have e1:([61]:zx).length=1:=rfl
 unfold dA
 exact gow⟩
instance (l:List zx) (n i:Int) (s:zx):Sp (nw l n i s) (0<=i/\i<n) (λr=>r=true->l.length=n):=⟨λh=>by unfold nw; exact gow⟩
instance (l:List zx) (i:Int):Sp (nu l i) (wd l/\0<=i/\i<=10) (λr=>r.1.length<=20000):=⟨λh=>by
 have h1:∀ j:Int,0<=j->j<l.length->1<=(nth l j (zb .str)).length/\(nth l j (zb .str)).length<=20000:=λj h0 h1=>h.1 _ (xw h0 h1)
 unfold nu
 exact gow⟩
end Go.AM.Lf
