/-
  Plain laws of the lifted program, part 0.
-/
import Derived.Test.YtjklmealdnfhfaaGreatDoorLf1
import Derived.Test.YtjklmealdnfhfaaGreatDoorAmA
import Derived.Test.YtjklmealdnfhfaaGreatDoorAmD
import Derived.KernelRfl
set_option linter.unusedVariables false
open Int renaming toNat_natCast -> B, eq_ofNat_of_zero_le -> qN, tdiv -> xI, tmod -> xJ
open Nat renaming mul_le_mul_right -> E, mul_comm -> zE, pow_succ -> zF, lt_of_le_of_lt -> zG, le_refl -> zJ, mul_le_mul_left -> zK, gcd -> zL, div_lt_iff_lt_mul -> zM, le_div_iff_mul_le -> zN, pos_of_ne_zero -> zO, le_trans -> zQ, pow_pos -> zT, lt_of_mul_lt_mul_right -> zU, mod_lt -> zV, strongRecOn -> zX, pow_le_pow_right -> zZ, pow_add -> qA, eq_zero_or_pos -> qB, div_add_mod -> qC, mul_lt_mul_of_pos_right -> qD, add_comm -> qG, add_zero -> qH, div_eq_of_lt -> qI, mul_assoc -> qJ, div_le_self -> qK, xor_lt_two_pow -> qM, mul_add -> qO, div_div_eq_div_mul -> qQ, mod_eq_of_lt -> qS, div_mul_le_self -> qV, mul_le_mul -> qX, mul_lt_mul_of_lt_of_le -> qY, eq_of_mul_eq_mul_left -> qZ, or_lt_two_pow -> xA, zero_le -> xB, add_assoc -> xC, and_le_left -> xE, gcd_le_left -> xF, mul_mod_mul_right -> xH
open List renaming replicate -> X, eq_nil_of_length_eq_zero -> V, take_of_length_le -> zI, getD_eq_getElem?_getD -> zP, take_set_of_le -> zS, length_replicate -> zW, take_succ_eq_append_getElem -> zY, drop_drop -> qE, drop_zero -> qF, mem_singleton -> qL, getElem?_eq_none -> qR, length_pos_iff -> qT, replicate_succ -> qU, getElem?_take -> qW, length_eq_zero_iff -> xD, sizeOf_lt_of_mem -> xG, drop -> xK, mem_cons -> xL
open BitVec renaming ofInt -> zH
open SizeOf renaming sizeOf -> zR
open Go.IntKind renaming wrap -> qP
open Sum renaming elim -> xM
open Go.AM.T (Fu Gk UF WC XU Xb Xr bh fD iU j7 pg sW vG vL wa xi yX z8R zu)
namespace Go.AM.PL
def nv:List Int->Nat
 | []=>0
 | x::l=>x.toNat+4294967296*nv l
def qx(l:List Int):Prop:=∀ x∈l,0<=x/\x<4294967296
def vO(n:Nat):List Int:=if h:n=0 then[]else((n % 4294967296:Nat):Int)::vO (n / 4294967296)
termination_by n
decreasing_by omega
theorem gN:vO 0=[]:=by rw[vO]; rfl
theorem XY{n:Nat}(h:n≠0):vO n=((n % 4294967296:Nat):Int)::vO (n / 4294967296):=by rw[vO,dif_neg h]
theorem vF:qx []:=λ_ h=>nomatch h
theorem gW{x:Int}{l:List Int}:qx (x::l)↔(0<=x/\x<4294967296)/\qx l:=by
 unfold qx; simp
theorem Ua{a b:List Int}:qx (a++b)↔qx a/\qx b:=by
 unfold qx; simp
 grind
theorem V1{a:List Int}(h:qx a)(n:Nat):qx (a.take n):=λx N=>h x (List.mem_of_mem_take N)
theorem rG{a:List Int}(h:qx a)(n:Nat):qx (a.drop n):=λx N=>h x (List.mem_of_mem_drop N)
theorem vN(n:Nat):qx (X n 0):=λx N=>by
 grind
theorem HX{a:List Int}(h:qx a)(i:Nat){x:Int}(h0:0<=x)(h1:x<4294967296):qx (a.set i x):=λy hy=>by
 rcases List.mem_or_eq_of_mem_set hy with h' | h'
 ·exact h y h'
 ·grind
theorem ft{a:List Int}(h:qx a)(i:Int):0<=nth a i 0/\nth a i 0<4294967296:=by
 unfold nth
 rw[zP]
 cases N:a[i.toNat]? with
 | none=>simp
 | some x=>exact h x (List.mem_of_getElem? N)
theorem wJ(n:Nat):qx (vO n):=by
 induction n using zX with
 | _ n ih =>
  by_cases h:n=0
  ·subst h; rw[gN]; exact vF
  ·rw[XY h]
   exact gW.2 ⟨O,ih _ (O)⟩
@[simp] theorem z2r:nv []=0:=rfl
@[simp] theorem XW(x:Int)(l:List Int):nv (x::l)=x.toNat+4294967296*nv l:=rfl
@[simp] theorem jj(n:Nat):nv (vO n)=n:=by
 induction n using zX with
 | _ n ih =>
  by_cases h:n=0
  ·subst h; rw[gN]; rfl
  ·rw[XY h,XW,ih _ (O)]; omega
theorem pq(a b:List Int):nv (a++b)=nv a+4294967296 ^ a.length*nv b:=by
 induction a with
 | nil=>simp
 | cons x a ih=>simp only[List.cons_append,XW,ih,List.length_cons,zF,qO]; rw[<- qJ,zE 4294967296 (4294967296 ^ a.length)]; omega
theorem YZ{l:List Int}(h:qx l):nv l<4294967296 ^ l.length:=by
 induction l with
 | nil=>simp
 | cons x l ih =>
  have h':=gW.1 h
  have:=ih h'.2
  simp
  omega
@[simp] theorem z8i(n:Nat):nv (X n 0)=0:=by
 induction n with
 | zero=>rfl
 | succ n ih=>simp[qU,ih]
def UH(l:List Int):Prop:=∀ x,l.getLast? = some x->x≠0
theorem Gv{x:Int}{l:List Int}(h:UH (x::l)):UH l:=by
 cases l with
 | nil=>nofun
 | cons y l=>intro z hz; exact h z (xz)
theorem Ln{l:List Int}(h:qx l)(ht:UH l)(hn:l≠[]):nv l≠0:=by
 induction l with
 | nil=>grind
 | cons x l ih =>
  have h':=gW.1 h
  cases l with
  | nil =>
   have:=ht x rfl
   simp; omega
  | cons y l =>
   have:=ih h'.2 (Gv ht) (qz)
   rw[XW]; omega
theorem CU{l:List Int}(h:qx l)(ht:UH l):vO (nv l)=l:=by
 induction l with
 | nil=>exact gN
 | cons x l ih =>
  have h':=gW.1 h
  have h1:=ih h'.2 (Gv ht)
  rw[XY (Ln h ht (qz)),XW]
  grind
theorem dA{n:Nat}:vO n=[]↔n=0:=by
 constructor
 ·intro h; rw[<- jj n,h]; rfl
 ·rintro rfl; exact gN
theorem YY(l:List Int):nv (l++[0])=nv l:=by simp[pq]
theorem uF{n k:Nat}:(vO n).length<=k↔n<4294967296 ^ k:=by
 induction k generalizing n with
 | zero =>
  simp only[Nat.le_zero_eq,xD,dA]; omega
 | succ k ih =>
  by_cases h:n=0
  ·grind
  ·rw[XY h,List.length_cons,zF,Nat.add_le_add_iff_right,ih]
   grind
theorem Lp{n k:Nat}:k<(vO n).length↔4294967296 ^ k<=n:=by
 have:=uF (n:=n) (k:=k); omega
theorem vK{l:List Int}(h:qx l):(vO (nv l)).length<=l.length:=uF.2 (YZ h)
theorem CQ{a b:List Int}(i:Int)(h:(a.length:Int)<=i):nth (a++b) i 0=nth b (i-a.length) 0:=by
 unfold nth
 grind
theorem WE(a:List Int)(i:Nat)(h:i<a.length):a.take (i+1)=a.take i++[nth a i 0]:=by
 rw[zY h]; simp[nth,h]
theorem CS{a:List Int}{i:Nat}(h:i<a.length):nv (a.take (i+1))=nv (a.take i)+4294967296 ^ i*(nth a i 0).toNat:=by
 rw[WE a i h,pq]
 have:(a.take i).length=i:=by simp; omega
 simp[this]
theorem nj(a:List Int)(i:Nat)(h:i<=a.length):nv a=nv (a.take i)+4294967296 ^ i*nv (a.drop i):=by
 have:=pq (a.take i) (a.drop i)
 rw[List.take_append_drop]at this
 grind
theorem Fb{a:List Int}{i:Nat}(h:i<a.length):nv (a.drop i)=(nth a i 0).toNat+4294967296*nv (a.drop (i+1)):=by
 rw[List.drop_eq_getElem_cons h,XW]; simp[nth,h]
theorem K1{α:Type}(a:List α)(i j:Nat)(x:α)(h:j<=i):(a.set i x).take j=a.take j:=by
 rw[zS h]
theorem WD(a:List Int)(i:Nat)(x:Int)(h:i<a.length):(a.set i x).take (i+1)=a.take i++[x]:=by
 rw[WE _ _ (xz),zS (zJ _)]
 simp[nth,h]
theorem cC(a:List Int)(i:Nat)(x:Int):(a.set i x).drop (i+1)=a.drop (i+1):=by
 rw[List.drop_set_of_lt (O)]
end Go.AM.PL
namespace Go.AM.T
variable {σ ρ:Type}
theorem cA{r:σ->T (σ⊕ρ)}(hb:σ->Prop)(μ:σ->Nat)(Q:ρ->Prop)
  (h:∀ s,hb s->(∃ s',(r s).run=some (.inl s')/\hb s'/\μ s'<μ s)\/(∃ x,(r s).run=some (.inr x)/\Q x)) {s:σ} (hs:hb s):∃ x,(loop r s).run=some x/\Q x:=by
 generalize hm:μ s=m
 induction m using zX generalizing s with
 | _ m ih =>
  rcases h s hs with⟨s',h1,M,h3⟩ | ⟨x,h1,M⟩
  ·rw[XU h1]
   grind
  ·exact⟨x,pg h1,M⟩
end Go.AM.T
namespace Go.AM.PL
def lm(a:List Int)(i:Nat):Nat:=(nth a (i:Int) 0).toNat
theorem ly{a:List Int}(h:qx a)(i:Nat):lm a i<4294967296:=by have:=ft h i; unfold lm; omega
theorem iK{a:List Int}(h:qx a)(i:Nat):nth a (i:Int) 0=(lm a i:Int):=by have:=ft h i; unfold lm; omega
theorem oJ{a:List Int}(h:qx a)(i:Nat):wh a i 0=(lm a i:Int):=by have:=iK h i; unfold nth at this; unfold wh; simpa using this
theorem zgQ{a:List Int}{i:Nat}(h:a.length<=i):lm a i=0:=by
 unfold lm nth; simp[qR h]
theorem ve(a:List Int)(i:Nat):nv (a.take (i+1))=nv (a.take i)+4294967296 ^ i*lm a i:=by
 by_cases h:i<a.length
 ·exact CS h
 ·rw[zgQ (O),zI (O),zI (O)]; simp
theorem gM{a:List Int}{i:Nat}(h:a.length<=i):nv (a.take i)=nv a:=by rw[zI h]
theorem Jh{a:List Int}{i j:Nat}{x:Int}(h:i<a.length):lm (a.set i x) j=if i=j then x.toNat else lm a j:=by
 unfold lm nth
 grind
theorem CR{a:List Int}{i:Nat}(x:Int)(h:i<a.length):nv (a.set i x)+4294967296 ^ i*lm a i=nv a+4294967296 ^ i*x.toNat:=by
 have h1:=nj (a.set i x) (i+1) (xz)
 have M:=nj a (i+1) (O)
 rw[cC,WD a i x h,pq]at h1
 rw[ve]at M
 have h3:(a.take i).length=i:=by simp; omega
 rw[h3]at h1
 simp at h1
 omega
theorem sR{a:List Int}{i:Nat}(x:Int)(h:i<a.length):nv ((a.set i x).take (i+1))=nv (a.take i)+4294967296 ^ i*x.toNat:=by
 rw[WD a i x h,pq]
 have h3:(a.take i).length=i:=by simp; omega
 rw[h3]; simp
theorem Fo(i:Nat):0<4294967296 ^ i:=xz
theorem c8{a:List Int}(h:qx a)(i:Nat):nv (a.take i)<4294967296 ^ i:=by
 have:=YZ (V1 h i)
 have M:(4294967296:Nat) ^ (a.take i).length<=4294967296 ^ i:=zZ (O) (xz)
 omega
def DY(a b:Nat):Int:=if a<b then -1 else if b<a then 1 else 0
theorem TO{r:Int->T (Int⊕(Unit⊕Int))}(x y:List Int)(N:qx x)(hy:qx y)(R:x.length=y.length)
  (h:∀ i:Nat,i<x.length->(r (i:Int)).run=some (if nth x i 0<nth y i 0 then .inr (.inr (-1))else if nth y i 0<nth x i 0 then .inr (.inr 1)else .inl ((i:Int)-1)))
  (h0:(r (-1)).run=some (.inr (.inl ()))):(T.loop r ((x.length:Int)-1)).run=some (if nv x<nv y then .inr (-1)else if nv y<nv x then .inr 1 else .inl ()):=by
 have key:∀ n:Nat,n<=x.length->(T.loop r ((n:Int)-1)).run=some (if nv (x.take n)<nv (y.take n)then .inr (-1)else if nv (y.take n)<nv (x.take n)then .inr 1 else .inl ()):=by
  intro n
  induction n with
  | zero=>intro _; simpa using pg h0
  | succ n ih =>
   intro hn
   have e1:((n+1:Nat):Int)-1=(n:Int):=O
   rw[e1]
   have hr:=h n (O)
   rw[iK N,iK hy]at hr
   have a1:=c8 N n
   have a2:=c8 hy n
   rw[ve,ve]
   rcases Nat.lt_trichotomy (lm x n) (lm y n)with c | c | c
   ·have hm:=zK (4294967296 ^ n) (show lm x n+1<=lm y n by omega)
    rw[qO]at hm
    rw[if_pos (O)]at hr
    rw[if_pos (O)]
    exact pg hr
   ·rw[if_neg (O),if_neg (O)]at hr
    rw[XU hr,ih (O),c]
    simp
   ·have hm:=zK (4294967296 ^ n) (show lm y n+1<=lm x n by omega)
    rw[qO]at hm
    rw[if_neg (O),if_pos (O)]at hr
    rw[if_neg (O),if_pos (O)]
    exact pg hr
 have:=key x.length (zJ _)
 rw[List.take_length]at this
 rw[R,List.take_length,<- R]at this
 exact this
theorem Jg{A zA:Nat}(h:(vO A).length<(vO zA).length):A<zA:=by
 have h1:=uF.1 (zJ (vO A).length)
 have M:=Lp.1 h
 omega
end Go.AM.PL
namespace Go.AM.PL
theorem Di(n:Nat)(h:n<18446744073709551616):qP .u64 (n:Int)=n:=gQ (O) (O)
theorem Qd(n:Nat)(h:n<4294967296):qP .u32 (n:Int)=n:=PJ (O) (O)
theorem lB{n:Nat}(h:n<18446744073709551616):wk (n:Int)=n:=gQ (O) (O)
theorem K7{n:Nat}(h:n<4294967296):gP (n:Int)=n:=PJ (O) (O)
theorem jX{a:List Int}(h:qx a)(i:Nat){n:Nat}(h1:n<4294967296):qx (a.set i (n:Int)):=HX h i (O) (O)
theorem DJ{x y:Nat}(N:x<4294967296)(hy:y<4294967296):GR .u32 (x:Int) (y:Int)=((x &&& y:Nat):Int):=by
 show qP .u32 (((zH 32 (x:Int) &&& zH 32 (y:Int)).toNat:Nat):Int)=_
 have e:(zH 32 (x:Int) &&& zH 32 (y:Int)).toNat=x &&& y:=by
  grind
 rw[e]
 exact Qd _ (zG xE N)
theorem KH{x y:Nat}(N:x<4294967296)(hy:y<4294967296):Hc .u32 (x:Int) (y:Int)=((x ||| y:Nat):Int):=by
 show qP .u32 (((zH 32 (x:Int) ||| zH 32 (y:Int)).toNat:Nat):Int)=_
 have e:(zH 32 (x:Int) ||| zH 32 (y:Int)).toNat=x ||| y:=by
  grind
 rw[e]
 exact Qd _ (xA (n:=32) N hy)
theorem GA{x y:Nat}(N:x<4294967296)(hy:y<4294967296):M7 .u32 (x:Int) (y:Int)=((x ^^^ y:Nat):Int):=by
 show qP .u32 (((zH 32 (x:Int) ^^^ zH 32 (y:Int)).toNat:Nat):Int)=_
 have e:(zH 32 (x:Int) ^^^ zH 32 (y:Int)).toNat=x ^^^ y:=by
  grind
 rw[e]
 exact Qd _ (qM (n:=32) N hy)
theorem z8B{x y:Nat}(N:x<18446744073709551616)(hy:y<18446744073709551616):Hc .u64 (x:Int) (y:Int)=((x ||| y:Nat):Int):=by
 show qP .u64 (((zH 64 (x:Int) ||| zH 64 (y:Int)).toNat:Nat):Int)=_
 have e:(zH 64 (x:Int) ||| zH 64 (y:Int)).toNat=x ||| y:=by
  grind
 rw[e]
 exact Di _ (xA (n:=64) N hy)
theorem Lt(x y m:Nat)(hy:y<2 ^ m):x*2 ^ m ||| y=x*2 ^ m+y:=by
 have:=Nat.shiftLeft_add_eq_or_of_lt hy x
 rw[Nat.shiftLeft_eq]at this
 grind
theorem zl1{x:Int}(h0:0<=x)(h1:x<4294967296):Zb .u64 x 32=x*4294967296:=by
 have e:Zb .u64 x 32=wk (x*4294967296):=rfl
 rw[e,gQ (O) (O)]
theorem znj{x y:Int}(h0:0<=x)(h1:x<4294967296)(M:0<=y)(h3:y<4294967296):Hc .u64 (Zb .u64 x 32) (wk y)=x*4294967296+y:=by
 rw[zl1 h0 h1,gQ M (O)]
 obtain⟨a,rfl⟩:=qN h0
 obtain⟨b,rfl⟩:=qN M
 have e:=z8B (x:=a*4294967296) (y:=b) (O) (O)
 rw[Lt a b 32 (xz)]at e
 grind
theorem z0T{x y:Int}(h0:0<=x)(h1:x<4294967296)(M:0<=y)(h3:y<4294967296):Hc .u64 (Zb .u64 x 32) y=x*4294967296+y:=by
 have:=znj h0 h1 M h3
 rwa [gQ M (O)]at this
theorem zaf{x:Int}(h0:0<=x):jk .u64 x 32=x / 4294967296:=by
 show Int.fdiv x 4294967296=_
 grind
theorem Xz{x y:Int}(h:0<=x):xI x y=x / y:=xz
theorem XA{x y:Int}(h:0<=x):xJ x y=x % y:=xz
theorem zeg{v:Nat}(h:v<4294967296):v / 2147483648=if v.testBit 31=true then 1 else 0:=xz
theorem Ir{v:Nat}(h:v<4294967296):v.testBit 31=decide (2147483648<=v):=xz
theorem zl4{x y b:Nat}(N:x<4294967296)(hy:y<4294967296)(I:b<=1) :
  gP (gP ((x:Int)-y)-b)=(((x+4294967296*(if x<y+b then 1 else 0))-y-b:Nat):Int):=by
 rw[Zg,Zg]
 grind
theorem TE{x y b d:Nat}(N:x<4294967296)(hy:y<4294967296)(I:b<=1)(J:d=(x+4294967296*(if x<y+b then 1 else 0))-y-b) :
  jk .u32 (Hc .u32 (GR .u32 (M7 .u32 (4294967295:Int) x) y) (GR .u32 (M7 .u32 (4294967295:Int) (M7 .u32 x y)) (d:Int))) 31=if x<y+b then 1 else 0:=by
 have Ez:d<4294967296:=by rw[J]; split<;>omega
 have e1:=GA (x:=4294967295) (y:=x) (O) N
 have h1:4294967295 ^^^ x<4294967296:=qM (n:=32) (O) N
 have e2:=DJ h1 hy
 have M:(4294967295 ^^^ x) &&& y<4294967296:=zG xE h1
 have e3:=GA N hy
 have h3:x ^^^ y<4294967296:=qM (n:=32) N hy
 have e4:=GA (x:=4294967295) (y:=x ^^^ y) (O) h3
 have h4:4294967295 ^^^ (x ^^^ y)<4294967296:=qM (n:=32) (O) h3
 have e5:=DJ h4 Ez
 have h5:(4294967295 ^^^ (x ^^^ y)) &&& d<4294967296:=zG xE h4
 have e6:=KH M h5
 have h6:=xA (n:=32) M h5
 have ec:(4294967295:Int)=((4294967295:Nat):Int):=rfl
 rw[ec,e1,e2,e3,e4,e5,e6]
 show Int.fdiv _ 2147483648=_
 rw[Int.fdiv_eq_ediv_of_nonneg _ (O)]
 have e7:=zeg h6
 have e8:(((((4294967295 ^^^ x) &&& y) ||| ((4294967295 ^^^ (x ^^^ y)) &&& d):Nat):Int)) / 2147483648=(((((4294967295 ^^^ x) &&& y) ||| ((4294967295 ^^^ (x ^^^ y)) &&& d)) / 2147483648:Nat):Int):=O
 rw[e8,e7]
 have t1:(4294967295:Nat).testBit 31=true:=xn
 simp only[Nat.testBit_or,Nat.testBit_and,Nat.testBit_xor,t1,Ir N,Ir hy,Ir Ez]
 by_cases c:x<y+b
 ·rw[if_pos c]at J ⊢
  by_cases p:2147483648<=x<;>by_cases q:2147483648<=y<;>by_cases r:2147483648<=d<;>simp[p,q,r]<;>omega
 ·rw[if_neg c]at J ⊢
  by_cases p:2147483648<=x<;>by_cases q:2147483648<=y<;>by_cases r:2147483648<=d<;>simp[p,q,r]<;>omega
end Go.AM.PL
namespace Go.AM.PL
def dgt(n:Nat):UInt8:=UInt8.ofNat (48+n % 10)
def dgz(n:Nat):zx:=if h:n=0 then[]else dgz (n / 10)++[dgt n]
termination_by n
decreasing_by omega
def pr(n:Nat):zx:=if n=0 then[48]else dgz n
theorem TZ:dgz 0=[]:=by rw[dgz]; rfl
theorem z5o{n:Nat}(h:n≠0):dgz n=dgz (n / 10)++[dgt n]:=by rw[dgz,dif_neg h]
def rd(n:Nat):List Int:=if h:n=0 then[]else((48+n % 10:Nat):Int)::rd (n / 10)
termination_by n
decreasing_by omega
theorem W8:rd 0=[]:=by rw[rd]; rfl
theorem Gc{n:Nat}(h:n≠0):rd n=((48+n % 10:Nat):Int)::rd (n / 10):=by rw[rd,dif_neg h]
def Q3:Nat->Nat->List Int
 | 0,_=>[]
 | k+1,n=>((48+n % 10:Nat):Int)::Q3 k (n / 10)
theorem Fp(k n:Nat):(Q3 k n).length=k:=by
 induction k generalizing n with
 | zero=>rfl
 | succ k ih=>simp[Q3,ih]
theorem z2R(k n:Nat):Q3 k (n % 10 ^ k)=Q3 k n:=by
 induction k generalizing n with
 | zero=>rfl
 | succ k ih =>
  simp only[Q3]
  have e1:n % 10 ^ (k+1) % 10=n % 10:=Nat.mod_mod_of_dvd _ ⟨10 ^ k,by rw[zF,zE]⟩
  have e2:n % 10 ^ (k+1) / 10=n / 10 % 10 ^ k:=by rw[zF,zE,Nat.mod_mul_right_div_self]
  rw[e1,e2,ih]
theorem z2P(k n:Nat)(h:n / 10 ^ k≠0):rd n=Q3 k n++rd (n / 10 ^ k):=by
 induction k generalizing n with
 | zero=>simp[Q3]
 | succ k ih =>
  have hn:n≠0:=by intro z; subst z; simp at h
  have e:n / 10 ^ (k+1)=n / 10 / 10 ^ k:=by rw[zF,zE,qQ]
  rw[e]at h ⊢
  rw[Gc hn,ih _ h]; rfl
theorem LD(k n:Nat)(h:n / 10 ^ k=0):∃ z,Q3 k n=rd n++X z 48:=by
 induction k generalizing n with
 | zero=>simp at h; subst h; exact⟨0,by rw[W8]; rfl⟩
 | succ k ih =>
  have e:n / 10 ^ (k+1)=n / 10 / 10 ^ k:=by rw[zF,zE,qQ]
  rw[e]at h
  obtain⟨z,hz⟩:=ih _ h
  simp only[Q3]
  by_cases hn:n=0
  ·subst hn
   refine⟨z+1,?_⟩
   rw[hz]
   simp[W8,qU]
  ·exact⟨z,by rw[hz,Gc hn]; rfl⟩
def blk(n:Nat):List Int:=if h:n=0 then[]else Q3 9 (n % 1000000000)++blk (n / 1000000000)
termination_by n
decreasing_by omega
theorem QH:blk 0=[]:=by rw[blk]; rfl
theorem Kq{n:Nat}(h:n≠0):blk n=Q3 9 (n % 1000000000)++blk (n / 1000000000):=by rw[blk,dif_neg h]
theorem TD(n:Nat):∃ z,blk n=rd n++X z 48:=by
 induction n using zX with
 | _ n ih =>
  by_cases hn:n=0
  ·subst hn; exact⟨0,by rw[QH,W8]; rfl⟩
  ·rw[Kq hn]
   have e:Q3 9 (n % 1000000000)=Q3 9 n:=z2R 9 n
   rw[e]
   by_cases h:n / 1000000000=0
   ·rw[h,QH,List.append_nil]
    exact LD 9 n h
   ·obtain⟨z,hz⟩:=ih (n / 1000000000) (O)
    refine⟨z,?_⟩
    rw[hz,<- List.append_assoc]
    congr 1
    exact(z2P 9 n h).symm
theorem TY(n:Nat):dgz n=ku (rd n).reverse:=by
 induction n using zX with
 | _ n ih =>
  by_cases hn:n=0
  ·subst hn; rw[TZ,W8]; rfl
  ·rw[z5o hn,Gc hn,ih _ (O)]
   simp only[List.reverse_cons,ku,List.map_append,List.map_cons,List.map_nil]
   congr 1
theorem zac{n:Nat}(h:n≠0):rd n≠[]:=by rw[Gc h]; simp
theorem z8L(n:Nat):∀ x,(rd n).getLast? = some x->x≠48:=by
 induction n using zX with
 | _ n ih =>
  intro x N
  by_cases hn:n=0
  ·subst hn; rw[W8]at N; cases N
  ·rw[Gc hn]at N
   by_cases M:n / 10=0
   ·rw[M,W8]at N
    simp at N; omega
   ·refine ih (n / 10) (O) x ?_
    rw[<- N]
    cases hc:rd (n / 10)with
    | nil=>exact absurd hc (zac M)
    | cons y l=>rw[List.getLast?_cons_cons]
end Go.AM.PL
namespace Go.AM.PL
theorem Yd(q a b c:Nat):q*(a*c+b)=(q*a)*c+q*b:=xz
theorem z00(a b:Nat):(a+1)*b=a*b+b:=xz
theorem zb4(a b c:Nat):(a+b)*c=a*c+b*c:=xz
theorem Et{u2 u1 u0 v1 v2 q r:Nat}(hr:q*v1+r=u2*4294967296+u1)(h:q*v2<=r*4294967296+u0) :
  q*(v1*4294967296+v2)<=u2*18446744073709551616+u1*4294967296+u0:=by
 rw[Yd]
 generalize q*v1=x at *
 generalize q*v2=y at *
 omega
theorem z0g{u2 u1 u0 v1 v2 q r:Nat}(hr:q*v1+r=u2*4294967296+u1)(h:r*4294967296+u0<q*v2) :
  u2*18446744073709551616+u1*4294967296+u0<q*(v1*4294967296+v2):=by
 rw[Yd]
 generalize q*v1=x at *
 generalize q*v2=y at *
 grind
theorem z0h{oE zD q:Nat}(hV:0<zD)(h:oE<q*zD):oE / zD<q:=(zM hV).2 h
theorem IN{u2 u1 u0 v1 v2:Nat}(hv:0<v1)(hu0:u0<4294967296):(u2*18446744073709551616+u1*4294967296+u0) / (v1*4294967296+v2)<=(u2*4294967296+u1) / v1:=by
 rw[zN hv]
 have h:=qV (u2*18446744073709551616+u1*4294967296+u0) (v1*4294967296+v2)
 generalize (u2*18446744073709551616+u1*4294967296+u0) / (v1*4294967296+v2)=q at *
 have e:=Yd q v1 v2 4294967296
 rw[e]at h; omega
theorem RH{u2 u1 u0 v1 v2:Nat}(hv:2147483648<=v1)(EM:v2<4294967296)(h:u2*18446744073709551616+u1*4294967296+u0<(v1*4294967296+v2+1)*4294967296) :
  (u2*4294967296+u1)<=v1*4294967296+v2/\(u2*4294967296+u1) / v1<=4294967297:=by
 have h1:u2*4294967296+u1<=v1*4294967296+v2:=O
 refine⟨h1,?_⟩
 rw[Nat.div_le_iff_le_mul (O)]
 omega
theorem MO{oE zD D U3 V2 zC κ' q:Nat}(hU:oE=U3*D+zC)(hX:zC<D)(hV:zD=V2*D+κ')(hY:κ'<D)(hVt:2147483648*4294967296<=V2)(hUV:oE<zD*4294967296)(hq:q=min (U3 / V2) 4294967295) :
  oE / zD<=q/\q<=oE / zD+1:=by
 have hD:0<D:=O
 have hV2:0<V2:=O
 have hVp:0<zD:=by rw[hV]; have:=Nat.mul_pos hV2 hD; omega
 constructor
 ·rw[hq,Nat.le_min]
  constructor
  ·rw[zN hV2]
   have h:=qV oE zD
   generalize oE / zD=z at *
   rw[hV,hU]at h
   have e:=Yd z V2 κ' D
   rw[e]at h
   have M:(z*V2)*D<(U3+1)*D:=by 
    rw[z00]
    generalize z*V2*D=m at *
    generalize z*κ'=m2 at *
    omega
   exact Nat.lt_succ_iff.1 (zU M)
  ·have:oE / zD<4294967296:=(zM hVp).2 (by rw[zE]; exact hUV)
   omega
 ·have h3:q<=U3 / V2:=O
  have h4:q<=4294967295:=O
  have h5:q*V2<=U3:=(zN hV2).1 h3
  cases q with
  | zero=>exact xB _
  | succ q =>
   have:q<=oE / zD:=by
    rw[zN hVp,hV,hU]
    have e:=Yd q V2 κ' D
    have e2:=z00 q V2
    have h6:(q*V2+V2)*D<=U3*D:=E D (O)
    have e3:=zb4 (q*V2) V2 D
    have h7:q*κ'<=4294967295*D:=qX (O) (O)
    have h8:4294967295*D<=V2*D:=E D (O)
    rw[e]; omega
   omega
end Go.AM.PL
namespace Go.AM.Lf
open PL
@[simp] theorem br:zb (.int .u32)=(0:Int):=rfl
theorem Fa(l:List Int)(x:Int):nth (l++[x]) ((l++[x]).length-1:Int) 0=x:=by
 rw[CQ _ (qz)]; simp[nth]
theorem bJ(a:List Int)(h:qx a)(R:a.length<=4000000000):(vY a).run=some (vO (nv a)):=by
 have key:(Xj a).run=some (vO (nv a)):=by
  unfold Xj
  refine Xb (λa=>qx a/\a.length<=4000000000) (λa=>a.length) (λa=>vO (nv a)) ?_ ⟨h,R⟩
  rintro s ⟨h1,M⟩
  rcases List.eq_nil_or_concat s with rfl | ⟨l,x,rfl⟩
  ·right; simp[sQ,ZR,gN]
  ·rw[List.concat_eq_append]at *
   have N:=Fa l x
   have hlen:(l++[x]).length=l.length+1:=qz
   have hw:qo (((l++[x]).length:Int)-1)=((l++[x]).length:Int)-1:=qv (O) (O)
   have hIs:(ZR (l++[x])).run=some (x != 0):=by
    unfold ZR
    rw[xi]
    ·simp only[hw,br,N,wa]
     congr 1
     have:(((l++[x]).length:Int)==0)=false:=by simp; omega
     rw[this]; rfl
    ·intro _; rw[hw]; exact⟨O,O⟩
   unfold sQ
   rw[zu hIs]
   by_cases KA:x=0
   ·left
    subst KA
    refine⟨l,?_,⟨(Ua.1 h1).1,O⟩,O,by rw[YY]⟩
    have hc:jI (e:=.int .u32) 0 (((l++[(0:Int)]).length:Int)-1) (l++[0])=l:=by
     unfold jI; simp
    rw[hw,hc]
    simp only[bne_self_eq_false,Bool.not_false,UF]
    rw[Xr _ (O) (O) (O),wa]
   ·right
    have I:(x != 0)=true:=by simpa using KA
    rw[I]
    simp only[Bool.not_true,WC,wa]
    rw[CU h1]
    intro y hy
    simp at hy; omega
 unfold vY
 rw[zu key,wa]
theorem Rr(a:List Int)(R:a.length<=4000000000):(yf a).run=some a:=by
 unfold yf
 rw[xi]
 ·cases a with
  | nil=>simp
  | cons x a=>simp only[List.length_cons]at R; simp(disch:=omega)
 ·rintro rfl r hr
  first
  | simpa[T.leads]using hr
  | (obtain⟨_,_,hr⟩:=hr; simpa[T.leads]using hr)
theorem tF(a:List Int)(h:qx a)(R:a.length<=4000000000):(iG a).run=some (vO (nv a)):=by
 unfold iG
 rw[zu (bJ a h R),zu (Rr _ (zQ (vK h) R)),wa]
theorem Vc(n:Nat)(h:n<18446744073709551616):(iB (n:Int)).run=some (vO n):=by
 have e2:gP (jk .u64 (n:Int) 32)=((n / 4294967296:Nat):Int):=by rw[zaf (O),Zg]; omega
 have e1:gP (n:Int)=((n % 4294967296:Nat):Int):=by rw[Zg]; omega
 have h1:qx [((n % 4294967296:Nat):Int),((n / 4294967296:Nat):Int)]:=by
  intro x N; simp only[xL,List.not_mem_nil,or_false]at N; rcases N with rfl | rfl<;>omega
 have M:=bJ _ h1 (qz)
 have h3:nv [((n % 4294967296:Nat):Int),((n / 4294967296:Nat):Int)]=n:=by simp only[XW,z2r]; omega
 unfold iB
 rw[iU _ (O),e1,e2,zu M,h3,wa]
theorem JO(a b:List Int)(ha:qx a)(I:qx b)(la:a.length<=1000000000)(lb:b.length<=1000000000):(sO a b).run=some (DY (nv a) (nv b)):=by
 unfold sO
 rw[zu (bJ a ha (O)),zu (bJ b I (O))]
 have qa:=vK ha
 have qb:=vK I
 generalize nv a=A at *
 generalize nv b=zA at *
 by_cases R:(vO A).length=(vO zA).length
 ·rw[R,bne_self_eq_false,WC]
  have key:=TO (r:=rI (vO A) (vO zA)) (vO A) (vO zA) (wJ A) (wJ zA) R (λi hi => ?_) ?_
  ·rw[<- R,qv (O) (O)]
   unfold YW
   rw[zu key,jj,jj]
   unfold DY
   by_cases p:A<zA
   ·simp[p]
   ·by_cases q:zA<A<;>simp[p,q]
  ·have e:qo ((i:Int)-1)=(i:Int)-1:=qv (O) (O)
   unfold rI
   have Ky:i<(vO zA).length:=O
   have x1:=iK (wJ A) i
   have x2:=iK (wJ zA) i
   rcases Nat.lt_trichotomy (lm (vO A) i) (lm (vO zA) i)with c | c | c
   ·have c2:¬ (lm (vO A) i=lm (vO zA) i):=O
    simp(disch:=omega) [e,x1,x2,c,c2,hi,Ky]<;>omega
   ·simp(disch:=omega) [e,x1,x2,c,hi,Ky]
   ·have c2:¬ (lm (vO A) i=lm (vO zA) i):=O
    have c3:¬ (lm (vO A) i<lm (vO zA) i):=O
    simp(disch:=omega) [e,x1,x2,c,c2,c3,hi,Ky]<;>omega
  ·simp[rI]
 ·rw[vG (by simp; omega)]
  unfold DY
  by_cases c:(vO A).length<(vO zA).length
  ·have:=Jg c
   simp[c,this]
  ·have M:=Jg (show(vO zA).length<(vO A).length by omega)
   have h3:¬ A<zA:=O
   simp[c,M,h3]
theorem z1m(n:Nat):gP (n:Int)=((n % 4294967296:Nat):Int):=by rfl
theorem EE(n:Nat):jk .u64 (n:Int) 32=((n / 4294967296:Nat):Int):=by rw[zaf (O)]; omega
theorem i1(i:Nat)(h:i<=4000000000):qo ((i:Int)+1)=((i+1:Nat):Int):=by rw[qv (O) (O)]; omega
theorem im1(i:Nat)(h:i<=4000000000):qo (((i+1:Nat):Int)-1)=(i:Int):=by rw[qv (O) (O)]; omega
theorem Jl{x y:Nat}(N:x<4294967296)(hy:y<4294967296):x*y<=18446744065119617025:=qX (show x<=4294967295 by omega) (show y<=4294967295 by omega)
theorem mf(xs:List Int)(i:Nat)(x:Int)(j:Nat)(h:i≠j):lm (xs.set i x) j=lm xs j:=by
 by_cases hi:i<xs.length
 ·rw[Jh hi,if_neg h]
 ·rw[List.set_eq_of_length_le (O)]
theorem KC{a:List Int}{i:Nat}(h:i<a.length):nv (a.drop i)=lm a i+4294967296*nv (a.drop (i+1)):=Fb h
theorem set_drop{a:List Int}{i:Nat}(x:Int)(h:i<a.length):nv ((a.set i x).drop i)=x.toNat+4294967296*nv (a.drop (i+1)):=by
 rw[KC (xz),cC,Jh h,if_pos rfl]
theorem Rv{hi lo y:Nat}(h0:hi<y)(h1:lo<4294967296)(M:y<4294967296) :
  (eM (hi:Int) (lo:Int) (y:Int)).run=some ((((hi*4294967296+lo) / y:Nat):Int),(((hi*4294967296+lo) % y:Nat):Int)):=by
 have e1:=z0T (x:=(hi:Int)) (y:=(lo:Int)) (O) (O) (O) (O)
 have ey:wk (y:Int)=y:=gQ (O) (O)
 have eh:wk (hi:Int)=hi:=gQ (O) (O)
 have el:wk (lo:Int)=lo:=gQ (O) (O)
 have hq:(hi*4294967296+lo) / y<4294967296:=by
  rw[zM (O)]
  grind
 have hr:(hi*4294967296+lo) % y<y:=zV _ (O)
 have e2:(hi:Int)*4294967296+(lo:Int)=((hi*4294967296+lo:Nat):Int):=O
 have e3:xI ((hi*4294967296+lo:Nat):Int) (y:Int)=(((hi*4294967296+lo) / y:Nat):Int):=by rw[Xz (O)]; rfl
 have e4:xJ ((hi*4294967296+lo:Nat):Int) (y:Int)=(((hi*4294967296+lo) % y:Nat):Int):=by rw[XA (O)]; rfl
 unfold eM
 rw[j7 (xz)]
 simp only[ey,eh,el,e1,e2,e3,e4]
 rw[iU _ (O),sW _ (O),sW _ (O),wa,lB (O),K7 hq,K7 (O)]
theorem LN{A Q r y l q:Nat}(h:A=Q*y+r)(hq:q=(r*4294967296+l) / y):l+4294967296*A=(q+4294967296*Q)*y+(r*4294967296+l) % y:=by
 have:=qC (r*4294967296+l) y
 grind
theorem WA(a:List Int)(ha:qx a)(la:a.length<=1000000000)(y:Nat)(h0:0<y)(h1:y<4294967296):(pn a (y:Int)).run=some (vO (nv a / y),((nv a % y:Nat):Int)):=by
 have loop:∃ r:Int×List Int,(Um a (y:Int) (0,(a.length:Int)-1,X a.length 0)).run=some r/\∃ m:Nat,r.1=(m:Int)/\m<y/\qx r.2/\r.2.length=a.length/\nv a=nv r.2*y+m:=by
  refine T.cA (λs:Int×Int×List Int=>∃ (m i:Nat),s.1=(m:Int)/\s.2.1=(i:Int)-1/\m<y/\i<=a.length/\qx s.2.2/\s.2.2.length=a.length/\nv (a.drop i)=nv (s.2.2.drop i)*y+m)
   (λs=>(s.2.1+1).toNat) _ ?_ ⟨0,a.length,rfl,rfl,h0,zJ _,vN _,qz,qz⟩
  rintro⟨_,_,xs⟩ ⟨m,i,rfl,rfl,hm,hi,R,hn,hv⟩
  simp only at R hn hv ⊢
  cases i with
  | zero =>
   right
   refine⟨((m:Int),xs),?_,m,rfl,hm,R,hn,by simpa using hv⟩
   unfold oH
   simp
  | succ i =>
   left
   have N:=ly ha i
   have e1:((i+1:Nat):Int)-1=(i:Int):=O
   have J:=Rv hm N h1
   have hq:(m*4294967296+lm a i) / y<4294967296:=by
    rw[zM (O)]
    grind
   have ei:qo ((i:Int)-1)=(i:Int)-1:=qv (O) (O)
   refine⟨((((m*4294967296+lm a i) % y:Nat):Int),(i:Int)-1,xs.set i (((m*4294967296+lm a i) / y:Nat):Int)),?_,⟨_,i,rfl,rfl,zV _ h0,O,jX R _ hq,by simpa using hn,?_⟩,qz⟩
   ·unfold oH
    simp only[e1,br,iK ha,Fu,ei]
    rw[if_pos (qz),vL _ (O) (O),zu J]
    simp(disch:=omega) [hn]
   ·simp only
    rw[KC (O),set_drop _ (O),B]
    exact LN hv rfl
 obtain⟨⟨_,xs⟩,hr,m,rfl,hm,R,hn,hv⟩:=loop
 simp only at R hn hv
 unfold pn
 rw[qv (O) (O)]
 simp only[B,zW]
 rw[T.run_mk _ (O) (O) (O) (O),bh _ rfl rfl rfl,xi rfl,zu hr]
 simp only[Nat.zero_add,qF,List.take_length]
 have e1:nv a / y=nv xs:=by rw[hv,zE,Nat.mul_add_div h0,qI hm,qH]
 have e2:nv a % y=m:=by rw[hv,zE,Nat.mul_add_mod,qS hm]
 rw[xi rfl,zu (bJ xs R (O)),wa,e1,e2]
theorem LK{v s:Nat}(hv:v<4294967296)(hs:s<=32):Zb .u64 (v:Int) (s:Int)=((v*2 ^ s:Nat):Int):=by
 have h1:2 ^ s<=2 ^ 32:=zZ (O) hs
 have M:v*2 ^ s<=4294967295*4294967296:=qX (O) h1
 have e:min (s:Int).toNat 64=s:=by simp; omega
 show wk ((v:Int)*2 ^ (min (s:Int).toNat 64))=_
 rw[e]
 have e2:(v:Int)*2 ^ s=((v*2 ^ s:Nat):Int):=qz
 rw[e2,lB (O)]
theorem zdb{v s:Nat}(hs:s<=64):jk .u64 (v:Int) (s:Int)=((v / 2 ^ s:Nat):Int):=by
 show Int.fdiv (v:Int) (2 ^ (min (s:Int).toNat 64))=_
 grind
theorem zcV{h m s:Nat}(hh:h<2 ^ s):h ||| m*2 ^ s=h+m*2 ^ s:=by rw[Nat.or_comm,Lt m h s hh,qG]
theorem F8(v s:Nat)(hs:s<=32):v*2 ^ s % 4294967296=(v % 2 ^ (32-s))*2 ^ s:=by
 have e:(4294967296:Nat)=2 ^ (32-s)*2 ^ s:=by rw[<- qA]; rw[show 32-s+s=32 by omega]
 rw[e,xH]
theorem S5{h v s:Nat}(hh:h<2 ^ s)(hv:v<4294967296)(hs:s<32) :
  Hc .u32 (h:Int) (gP ((v*2 ^ s:Nat):Int))=((h+v*2 ^ s % 4294967296:Nat):Int)/\h+v*2 ^ s % 4294967296<4294967296/\v*2 ^ s / 4294967296<2 ^ s:=by
 have e1:=F8 v s (O)
 have e2:(v % 2 ^ (32-s))*2 ^ s+2 ^ s<=4294967296:=by
  have:v % 2 ^ (32-s)+1<=2 ^ (32-s):=zV _ (zT (O))
  have:=E (2 ^ s) this
  rw[<- qA,show 32-s+s=32 by omega]at this
  grind
 refine⟨?_,xz,?_⟩
 ·rw[z1m,KH (O) (O),e1,zcV hh]
 ·rw[zM (O),zE]
  exact Nat.mul_lt_mul_of_pos_left hv (zT (O))
theorem ES{zC h P zD v t A:Nat}(hv:zC+h*P=zD*t)(hA:A=v*t):zC+P*(h+A % 4294967296)+A / 4294967296*(P*4294967296)=(zD+P*v)*t:=by
 have e:A=A % 4294967296+4294967296*(A / 4294967296):=O
 grind
theorem HW(a:List Int)(ha:qx a)(la:a.length<=1000000000)(s n:Nat)(hs:s<32)(Yl:a.length<=n)(Ct:n<=a.length+1)(GY:nv a*2 ^ s<4294967296 ^ n) :
  ∃ r,(JQ (s:Int) (n:Int) a (a.length:Int) (0,X n 0)).run=some r/\qx r/\r.length=n/\nv r=nv a*2 ^ s:=by
 refine T.cA (λz:Int×List Int=>∃ i h:Nat,z.1=(i:Int)/\i<=a.length/\qx z.2/\z.2.length=n/\h<2 ^ s/\(i<n->lm z.2 i=h)/\nv (z.2.take i)+h*4294967296 ^ i=nv (a.take i)*2 ^ s)
  (λz=>a.length-z.1.toNat) _ ?_ ⟨0,0,rfl,O,vN _,qz,zT (O),λ_ => ?_,qz⟩
 ·rintro⟨_,xs⟩ ⟨i,h,rfl,hi,R,hn,hh,hli,hv⟩
  simp only at R hn hli hv ⊢
  by_cases wM:i<a.length
  ·left
   have N:=ly ha i
   obtain⟨s1,s2,s3⟩:=S5 hh N hs
   have I:wk (lm a i:Int)=lm a i:=lB (O)
   have hlx:=hli (O)
   have hp:2 ^ s<=2 ^ 31:=zZ (O) (O)
   have e2:gP ((lm a i*2 ^ s / 4294967296:Nat):Int)=((lm a i*2 ^ s / 4294967296:Nat):Int):=K7 (O)
   by_cases Ja:i+1<n
   all_goals have zg2:((i:Int)+1<(n:Int))↔(i+1<n):=O
   ·refine⟨(((i+1:Nat):Int),(xs.set i ((h+lm a i*2 ^ s % 4294967296:Nat):Int)).set (i+1) ((lm a i*2 ^ s / 4294967296:Nat):Int)),?_,
     ⟨i+1,lm a i*2 ^ s / 4294967296,rfl,O,jX (jX R _ s2) _ (O),by simpa using hn,s3,λ_ => ?_,?_⟩,by simp; omega⟩
    ·unfold nh
     simp only[br,iK ha,B,Nat.zero_add,oJ R,I,LK N (show s<=32 by omega),hlx,s1,i1 i (O),EE,e2]
     simp(disch:=omega) [wM,hn,Ja,zg2]
    ·simp only
     rw[Jh (by simp; omega),if_pos rfl,B]
    ·simp only
     rw[K1 _ _ _ _ (zJ _),sR _ (O),ve,B,zF]
     exact ES hv rfl
   ·refine⟨(((i+1:Nat):Int),xs.set i ((h+lm a i*2 ^ s % 4294967296:Nat):Int)),?_,
     ⟨i+1,lm a i*2 ^ s / 4294967296,rfl,O,jX R _ s2,by simpa using hn,s3,λ_=>O,?_⟩,by simp; omega⟩
    ·unfold nh
     simp only[br,iK ha,B,Nat.zero_add,oJ R,I,LK N (show s<=32 by omega),hlx,s1,i1 i (O),EE,e2]
     simp(disch:=omega) [wM,hn,Ja,zg2]
    ·simp only
     rw[sR _ (O),ve,B,zF]
     exact ES hv rfl
  ·right
   have:i=a.length:=O
   subst this
   refine⟨xs,?_,R,hn,?_⟩
   ·unfold nh
    simp
   ·rw[List.take_length]at hv
    by_cases q:n=a.length
    ·rw[gM (O)]at hv
     rcases qB h with z | z
     ·grind
     ·have:=E (4294967296 ^ a.length) z
      grind
    ·have jZ:n=a.length+1:=O
     have:=ve xs a.length
     rw[gM (O),hli (O),zE]at this
     omega
 ·show lm (X n 0) 0=0
  unfold lm nth
  cases n<;>simp[qU]
theorem CK(a:List Int)(ha:qx a)(la:a.length<=1000000000)(s n:Nat)(hs:s<32)(Yl:a.length<=n)(Ct:n<=a.length+1)(GY:nv a*2 ^ s<4294967296 ^ n) :
  ∃ r,(Uk a (s:Int) (n:Int)).run=some r/\qx r/\r.length=n/\nv r=nv a*2 ^ s:=by
 obtain⟨r,h1,M,h3,h4⟩:=HW a ha la s n hs Yl Ct GY
 refine⟨r,?_,M,h3,h4⟩
 unfold Uk
 simp
 rw[T.run_mk _ (O) (O) (O) (O),bh _ rfl rfl rfl,xi rfl,zu h1]
 simp
theorem Xg(a:List Int)(ha:qx a)(la:a.length<=1000000000)(s n:Nat)(hs:s<32)(Yl:a.length<=n)(Ct:n<=a.length+1)(GY:nv a*2 ^ s<4294967296 ^ n) :
  ∃ r,(rK a (s:Int) (n:Int)).run=some r/\qx r/\r.length=n/\nv r=nv a*2 ^ s:=by
 obtain⟨r,h1,M,h3,h4⟩:=HW a ha la s n hs Yl Ct GY
 refine⟨r,?_,M,h3,h4⟩
 have GJ:(Wy (s:Int) (n:Int) a (a.length:Int) (0,X n 0)).run=some r:=h1
 unfold rK
 simp
 rw[T.run_mk _ (O) (O) (O) (O),bh _ rfl rfl rfl,xi rfl,zu GJ]
 simp
theorem zkT{a b s:Nat}(hs:s<=32)(ha:a<2 ^ (32-s)):a ||| b*2 ^ (32-s)=a+b*2 ^ (32-s):=by rw[Nat.or_comm,Lt b a (32-s) ha,qG]
theorem fy(s:Nat)(h:s<=32):(4294967296:Nat)=2 ^ (32-s)*2 ^ s:=by rw[<- qA,show 32-s+s=32 by omega]
theorem zl2{v s:Nat}(hs:s<=32):v*4294967296 / 2 ^ s=v*2 ^ (32-s):=by
 rw[fy s hs,<- qJ,Nat.mul_div_cancel _ (zT (O))]
theorem zdc{v s:Nat}(hs:s<=32):v*2 ^ (32-s) / 4294967296=v / 2 ^ s:=by
 rw[fy s hs,zE v,Nat.mul_div_mul_left _ _ (zT (O))]
theorem zdd{v s:Nat}(hs:s<=32):v*2 ^ (32-s) % 4294967296=(v % 2 ^ s)*2 ^ (32-s):=by
 rw[fy s hs,zE (2 ^ (32-s)),xH]
theorem z8U{zD v P s C:Nat}(hs:s<=32)(hC:C=zD / 2 ^ s):C+P*((v % 2 ^ s)*2 ^ (32-s))+P*4294967296*(v / 2 ^ s)=(zD+P*4294967296*v) / 2 ^ s:=by
 have hp:0<2 ^ s:=zT (O)
 have e1:zD+P*4294967296*v=zD+(P*2 ^ (32-s)*v)*2 ^ s:=by
  have:P*4294967296*v=P*(2 ^ (32-s)*2 ^ s)*v:=by rw[<- fy s hs]
  grind
 rw[e1,Nat.add_mul_div_right _ _ hp,hC]
 have e2:v=v % 2 ^ s+2 ^ s*(v / 2 ^ s):=by have:=qC v (2 ^ s); omega
 have e3:P*4294967296*(v / 2 ^ s)=P*(2 ^ (32-s)*2 ^ s)*(v / 2 ^ s):=by rw[<- fy s hs]
 grind
theorem z36(x:List Int)(N:qx x)(lx:x.length<=4000000000)(s:Nat)(hs:s<32) :
  ∃ r,(Uh (s:Int) x (x.length:Int) (0,X x.length 0)).run=some r/\qx r/\r.length=x.length/\nv r=nv x / 2 ^ s:=by
 refine T.cA (λz:Int×List Int=>∃ i:Nat,z.1=(i:Int)/\i<=x.length/\qx z.2/\z.2.length=x.length/\(∀ j,i<=j->lm z.2 j=0)/\(∀ j,i=j+1->lm z.2 j=lm x j / 2 ^ s)/\nv (z.2.take i)=nv (x.take i) / 2 ^ s)
  (λz=>x.length-z.1.toNat) _ ?_ ⟨0,rfl,O,vN _,qz,λj _ => ?_,λj h=>O,qz⟩
 ·rintro⟨_,xs⟩ ⟨i,rfl,hi,R,hn,hz,hp,hv⟩
  simp only at R hn hz hp hv ⊢
  by_cases wM:i<x.length
  ·left
   have I1:=ly N i
   have I:wk (lm x i:Int)=lm x i:=lB (O)
   have h32:(32:Int)=((32:Nat):Int):=rfl
   have w1:jk .u64 (Zb .u64 (lm x i:Int) 32) (s:Int)=((lm x i*2 ^ (32-s):Nat):Int):=by
    rw[h32,LK I1 (O),zdb (O),<- zl2 (O)]
   have hq:lm x i / 2 ^ s<4294967296:=zG (qK _ _) I1
   have w2:gP (jk .u64 ((lm x i*2 ^ (32-s):Nat):Int) 32)=((lm x i / 2 ^ s:Nat):Int):=by rw[EE,zdc (O),K7 hq]
   have w3:Hc .u32 (wh xs i 0) ((lm x i / 2 ^ s:Nat):Int)=((lm x i / 2 ^ s:Nat):Int):=by
    rw[oJ R,hz i (zJ _),KH (O) hq,Nat.zero_or]
   cases i with
   | zero =>
    refine⟨(1,xs.set 0 ((lm x 0 / 2 ^ s:Nat):Int)),?_,⟨1,rfl,O,jX R _ hq,by simpa using hn,λj h => ?_,λj h => ?_,?_⟩,by simp; omega⟩
    ·have w3':=w3
     simp only[Int.natCast_zero]at *
     have KA:nth x 0 0=(lm x 0:Int):=iK N 0
     unfold iF
     simp only[br,KA,B,Nat.zero_add,I,w1,w2,w3]
     have zpk:Hc .u32 (wh xs (Int.toNat 0) 0) ((lm x 0 / 2 ^ s:Nat):Int)=((lm x 0 / 2 ^ s:Nat):Int):=w3
     generalize lm x 0 / 2 ^ s=q at *
     simp only[zpk]
     simp(disch:=omega) [wM,hn]
    ·rw[mf _ _ _ _ (O)]; exact hz j (O)
    ·have:j=0:=O
     subst this
     rw[Jh (O),if_pos rfl,B]
    ·simp only
     rw[sR _ (O),ve]; simp only[B,List.take_zero,z2r,Nat.pow_zero,Nat.one_mul,Nat.zero_add]
   | succ i =>
    have Dv:=hp i rfl
    have znM:=ly N i
    have hq2:lm xs i<2 ^ (32-s):=by
     rw[Dv,zM (zT (O)),<- fy s (O)]; exact znM
    have hq3:lm x (i+1)*2 ^ (32-s) % 4294967296=(lm x (i+1) % 2 ^ s)*2 ^ (32-s):=zdd (O)
    have hq4:lm xs i+(lm x (i+1) % 2 ^ s)*2 ^ (32-s)<4294967296:=by
     have h1:lm x (i+1) % 2 ^ s+1<=2 ^ s:=zV _ (zT (O))
     have M:=E (2 ^ (32-s)) h1
     rw[zE (2 ^ s),<- fy s (O),Nat.add_mul]at M
     omega
    have hxi:=ly R i
    have w4:∀ ys:List Int,qx ys->lm ys i=lm xs i->Hc .u32 (wh ys i 0) (gP ((lm x (i+1)*2 ^ (32-s):Nat):Int))=((lm xs i+(lm x (i+1) % 2 ^ s)*2 ^ (32-s):Nat):Int):=by
     intro ys hys he
     rw[oJ hys,he,z1m,KH hxi (zV _ (O)),hq3,zkT (O) hq2]
    have w5:=w4 _ (jX R (i+1) hq) (mf _ _ _ _ (O))
    refine⟨(((i+1+1:Nat):Int),(xs.set (i+1) ((lm x (i+1) / 2 ^ s:Nat):Int)).set i ((lm xs i+(lm x (i+1) % 2 ^ s)*2 ^ (32-s):Nat):Int)),?_,
     ⟨i+1+1,rfl,O,jX (jX R _ hq) _ hq4,by simpa using hn,λj h => ?_,λj h => ?_,?_⟩,by simp; omega⟩
    ·unfold iF
     simp only[br,iK N,B,Nat.zero_add,I,w1,w2,w3,i1 (i+1) (O),im1 i (O),w5]
     rw[vG (by simp; omega)]
     have Wr:decide ((0:Int)<((i+1:Nat):Int))=true:=qz
     generalize hG:(xs.set (i+1) ((lm x (i+1) / 2 ^ s:Nat):Int)).set i ((lm xs i+(lm x (i+1) % 2 ^ s)*2 ^ (32-s):Nat):Int)=G
     have hGl:G.length=xs.length:=by rw[<- hG]; simp
     rw[vL _ (O) (O),iU _ (O),iU _ (O),vL _ (O) (O),fD _ rfl (O),iU _ (O),vL _ (O) (O),fD _ rfl (O),vG Wr,
      vL _ (O) (O),fD _ (qz) (by simp; omega),vL _ (O) (O),fD _ (qz) (by simp; omega),bh _ (O) rfl (O),yX _ (O),wa]
    ·rw[mf _ _ _ _ (O),mf _ _ _ _ (O)]; exact hz j (O)
    ·have:j=i+1:=O
     subst this
     rw[mf _ _ _ _ (O),Jh (O),if_pos rfl,B]
    ·simp only
     rw[ve,mf _ _ _ _ (O),Jh (O),if_pos rfl,B,sR _ (by simp; omega),K1 _ _ _ _ (O),B,ve,zF]
     have EM:=hv
     rw[ve]at EM
     have e:nv (xs.take i)+4294967296 ^ i*(lm xs i+lm x (i+1) % 2 ^ s*2 ^ (32-s))=(nv (xs.take i)+4294967296 ^ i*lm xs i)+4294967296 ^ i*(lm x (i+1) % 2 ^ s*2 ^ (32-s)):=by rw[qO]; omega
     rw[e]
     exact z8U (O) EM
  ·right
   have:i=x.length:=O
   subst this
   refine⟨xs,?_,R,hn,?_⟩
   ·unfold iF
    simp
   ·grind
 ·show lm (X x.length 0) j=0
  unfold lm nth
  grind
theorem z6p{A k:Nat}(h:(vO A).length<=k):A<4294967296 ^ k:=uF.1 h
theorem z2O(k:Nat):(4294967296:Nat) ^ (k / 32)*2 ^ (k % 32)=2 ^ k:=by
 have:(4294967296:Nat)=2 ^ 32:=xn
 rw[this,<- Nat.pow_mul,<- qA]; congr 1; omega
theorem GO(a:List Int)(ha:qx a)(la:a.length<=1000000000)(k:Nat)(hk:k<=4096)(h0:0<k):(me a (-(k:Int))).run=some (vO (nv a / 2 ^ k)):=by
 have qa:=vK ha
 unfold me
 rw[zu (bJ a ha (O))]
 generalize nv a=A at *
 have e1:V5 (lh (-(k:Int)) (-4096)) 4096 = -(k:Int):=by unfold V5 lh; repeat' split<;>omega
 have e2:qo (0 - -(k:Int))=(k:Int):=by rw[qv (O) (O)]; omega
 have e3:qo (xI (k:Int) 32)=((k / 32:Nat):Int):=by rw[Xz (O),qv (O) (O)]; omega
 have e4:wk (xJ (k:Int) 32)=((k % 32:Nat):Int):=by rw[XA (O),gQ (O) (O)]; omega
 simp only[e1,e2,e3,e4]
 rw[vG (xz),sW _ (O)]
 have N:=wJ A
 by_cases c:(vO A).length<=k / 32
 ·rw[vG (by simp; omega),wa]
  have h1:=z6p c
  have M:=z2O k
  have h3:4294967296 ^ (k / 32)<=2 ^ k:=by rw[<- M]; exact Nat.le_mul_of_pos_right _ (zT (O))
  rw[qI (O),gN]
 ·rw[j7 (by simp; omega),sW _ (O)]
  have e5:qo (((vO A).length:Int)-((k / 32:Nat):Int))=(((vO A).length-k / 32:Nat):Int):=by rw[qv (O) (O)]; omega
  have e6:jI (e:=.int .u32) ((k / 32:Nat):Int) ((vO A).length:Int) (vO A)=(vO A).drop (k / 32):=by unfold jI; simp only[B,List.take_length]
  obtain⟨r,g1,g2,g3,g4⟩:=z36 ((vO A).drop (k / 32)) (rG N _) (by simp; omega) (k % 32) (zV _ (O))
  have hlen:((vO A).drop (k / 32)).length=(vO A).length-k / 32:=List.length_drop
  rw[hlen]at g1
  simp only[e5,e6,B,zW,hlen]
  rw[T.run_mk _ (O) (O) (O) (O),Xr _ (O) (O) (O),bh _ rfl rfl rfl,xi rfl,zu g1]
  simp only[Nat.zero_add,qF,List.take_length]
  rw[xi rfl,zu (bJ r g2 (O)),wa,g4]
  have h1:=nj (vO A) (k / 32) (O)
  rw[jj]at h1
  have M:=c8 N (k / 32)
  have h3:A / 4294967296 ^ (k / 32)=nv ((vO A).drop (k / 32)):=by
   refine(congrArg (· / 4294967296 ^ (k / 32)) h1).trans ?_
   rw[Nat.add_mul_div_left _ _ (Fo _),qI M,Nat.zero_add]
  rw[<- h3,qQ,z2O]
theorem CT(k:Nat)(l:List Int):nv (X k 0++l)=4294967296 ^ k*nv l:=by rw[pq]; simp
theorem GP(a:List Int)(ha:qx a)(la:a.length<=1000000000)(k:Nat)(hk:k<=4096):(me a (k:Int)).run=some (vO (nv a*2 ^ k)):=by
 have qa:=vK ha
 unfold me
 rw[zu (bJ a ha (O))]
 generalize nv a=A at *
 have e1:V5 (lh (k:Int) (-4096)) 4096=(k:Int):=by unfold V5 lh; repeat' split<;>omega
 have e3:qo (xI (k:Int) 32)=((k / 32:Nat):Int):=by rw[Xz (O),qv (O) (O)]; omega
 have e4:wk (xJ (k:Int) 32)=((k % 32:Nat):Int):=by rw[XA (O),gQ (O) (O)]; omega
 have N:=wJ A
 have e5:qo ((vO A).length+1:Int)=(((vO A).length+1:Nat):Int):=i1 _ (O)
 have e6:qo (qo (((k / 32:Nat):Int)+(vO A).length)+1)=((k / 32+(vO A).length+1:Nat):Int):=by rw[qv (x:=((k / 32:Nat):Int)+(vO A).length) (O) (O),qv (O) (O)]; omega
 have GY:nv (vO A)*2 ^ (k % 32)<4294967296 ^ ((vO A).length+1):=by
  have h1:=YZ N
  have M:2 ^ (k % 32)<=2 ^ 32:=zZ (O) (O)
  exact qY h1 M (O)
 obtain⟨r,g1,g2,g3,g4⟩:=CK (vO A) N (O) (k % 32) ((vO A).length+1) (zV _ (O)) (O) (O) GY
 simp only[e1,e3,e4,e5,e6]
 rw[j7 (qz),sW _ (O),T.run_mk _ (O) (O) (O) (O),Xr _ (O) (by simp; omega) (qz),sW _ (O),zu g1]
 simp only[B,Nat.zero_add,zW,qF]
 rw[z8R _ rfl (O),Gk]
 have ec:((yr (k / 32) (k / 32+(vO A).length+1-k / 32) (X (k / 32+(vO A).length+1) (0:Int)) r))=X (k / 32) 0++r:=by
  unfold yr
  rw[List.take_replicate,List.drop_replicate,zI (O)]
  rw[show k / 32+(vO A).length+1-(k / 32+min (k / 32+(vO A).length+1-k / 32) r.length)=0 by omega]
  grind
 rw[ec,zI (by simp; omega)]
 rw[zu (bJ _ (Ua.2 ⟨vN _,g2⟩) (by simp; omega)),wa,CT,g4,jj]
 rw[<- z2O k]; grind
theorem RG{u2 u1 u0 v1 v2:Nat}(M:u2<4294967296)(h1:u1<4294967296)(h0:u0<4294967296)(hv1:v1<4294967296)(EM:v2<4294967296)(hn:2147483648<=v1)
  (ht:u2*18446744073709551616+u1*4294967296+u0<(v1*4294967296+v2+1)*4294967296) :
  (pj (u2:Int) (u1:Int) (u0:Int) (v1:Int) (v2:Int)).run=some ((min ((u2*18446744073709551616+u1*4294967296+u0) / (v1*4294967296+v2)) 4294967295:Nat):Int):=by
 obtain⟨t1,t2⟩:=RH hn EM ht
 have ti:=IN (u2:=u2) (u1:=u1) (u0:=u0) (v1:=v1) (v2:=v2) (O) h0
 obtain⟨Q,hQ⟩:∃ Q,(u2*18446744073709551616+u1*4294967296+u0) / (v1*4294967296+v2)=Q:=⟨_,rfl⟩
 rw[hQ]at ti ⊢
 have hV:0<v1*4294967296+v2:=O
 have e1:=z0T (x:=(u2:Int)) (y:=(u1:Int)) (O) (O) (O) (O)
 have e2:(u2:Int)*4294967296+(u1:Int)=((u2*4294967296+u1:Nat):Int):=O
 have w1:wk (u1:Int)=u1:=lB (O)
 have w2:wk (u2:Int)=u2:=lB (O)
 have w0:wk (u0:Int)=u0:=lB (O)
 have x1:wk (v1:Int)=v1:=lB (O)
 have x2:wk (v2:Int)=v2:=lB (O)
 have e3:xI ((u2*4294967296+u1:Nat):Int) (v1:Int)=(((u2*4294967296+u1) / v1:Nat):Int):=by rw[Xz (O)]; rfl
 have e4:xJ ((u2*4294967296+u1:Nat):Int) (v1:Int)=(((u2*4294967296+u1) % v1:Nat):Int):=by rw[XA (O)]; rfl
 have hm:(u2*4294967296+u1) % v1<v1:=zV _ (O)
 have hdm:=qC (u2*4294967296+u1) v1
 rw[zE]at hdm
 have loop:∃ r:Int,(Uj (u0:Int) (v1:Int) (v2:Int) ((((u2*4294967296+u1) / v1:Nat):Int),(((u2*4294967296+u1) % v1:Nat):Int))).run=some r/\r=((min Q 4294967295:Nat):Int):=by
  refine T.cA (λs:Int×Int=>∃ q r:Nat,s.1=(q:Int)/\s.2=(r:Int)/\q<=4294967297/\r<4294967296/\q*v1+r=u2*4294967296+u1/\min Q 4294967295<=q)
   (λs=>s.1.toNat) _ ?_ ⟨_,_,rfl,rfl,t2,O,hdm,O⟩
  rintro⟨_,_⟩ ⟨q,r,rfl,rfl,hq,hr,hqr,zbL⟩
  have e5:=z0T (x:=(r:Int)) (y:=(u0:Int)) (O) (O) (O) (O)
  have es:jk .u64 (q:Int) 32=((q / 4294967296:Nat):Int):=EE q
  by_cases hbig:4294967296<=q\/r*4294967296+u0<q*v2
  ·-- too many
   have hgt:min Q 4294967295<q:=by
    rcases hbig with h | h
    ·omega
    ·have:=z0h hV (z0g (u2:=u2) (u1:=u1) (u0:=u0) (v1:=v1) (v2:=v2) hqr h)
     omega
   have ec:((jk .u64 (q:Int) 32 != 0)||decide (Hc .u64 (Zb .u64 (r:Int) 32) (u0:Int)<wk ((q:Int)*(v2:Int))))=true:=by
    rw[es,e5]
    by_cases h:4294967296<=q
    ·grind
    ·have hh:r*4294967296+u0<q*v2:=hbig.resolve_left h
     have hm2:=Jl (x:=q) (y:=v2) (Nat.lt_of_not_le h) EM
     have e6:(q:Int)*(v2:Int)=((q*v2:Nat):Int):=qz
     rw[e6,lB (zG hm2 (xn))]
     grind
   have eq1:wk ((q:Int)-1)=((q-1:Nat):Int):=by rw[gQ (O) (O)]; omega
   have er1:wk ((r:Int)+(v1:Int))=((r+v1:Nat):Int):=by rw[gQ (O) (O)]; omega
   have hq1:(q-1)*v1+(r+v1)=u2*4294967296+u1:=by
    obtain⟨p,rfl⟩:∃ p,q=p+1:=⟨q-1,O⟩
    grind
   by_cases hover:4294967296<=r+v1
   ·right
    refine⟨((q-1:Nat):Int),?_,?_⟩
    ·unfold iH
     simp only[w0,x1,x2,eq1,er1]
     rw[xi ⟨O,λ_=>O⟩,vG ec,iU _ (O),vG (by rw[EE]; simp; omega),wa]
    ·-- what is left cannot be more
     have hq2:q-1<=Q:=by
      rw[<- hQ,zN hV]
      refine Et (u0:=u0) hq1 ?_
      have h3:q-1<=4294967295:=by
       grind
      have h4:(q-1)*v2<=4294967295*4294967295:=qX h3 (O)
      grind
     have h5:q-1<=4294967295:=by
      grind
     omega
   ·left
    refine⟨(((q-1:Nat):Int),((r+v1:Nat):Int)),?_,⟨q-1,r+v1,rfl,rfl,O,O,hq1,O⟩,by simp; omega⟩
    unfold iH
    simp only[w0,x1,x2,eq1,er1]
    rw[xi ⟨O,λ_=>O⟩,vG ec,iU _ (O),j7 (by rw[EE]; simp; omega),wa]
  ·right
   have hm2:=Jl (x:=q) (y:=v2) (O) EM
   have e6:(q:Int)*(v2:Int)=((q*v2:Nat):Int):=qz
   have ec:((jk .u64 (q:Int) 32 != 0)||decide (Hc .u64 (Zb .u64 (r:Int) 32) (u0:Int)<wk ((q:Int)*(v2:Int))))=false:=by
    have hz:q / 4294967296=0:=O
    rw[es,e5,e6,lB (zG hm2 (xn)),hz]
    have hh:¬ (r*4294967296+u0<q*v2):=O
    generalize q*v2=z at *
    rw[show decide ((r:Int)*4294967296+(u0:Int)<(z:Int))=false from decide_eq_false (O)]; rfl
   refine⟨(q:Int),?_,?_⟩
   ·unfold iH
    simp only[w0,x1,x2]
    rw[xi ⟨O,λ_=>O⟩,j7 ec,wa]
   ·have hq2:q<=Q:=by
     rw[<- hQ,zN hV]
     exact Et hqr (O)
    omega
 obtain⟨r,hr,rfl⟩:=loop
 unfold pj
 have e7:wk (((u2*4294967296+u1) / v1:Nat):Int)=(((u2*4294967296+u1) / v1:Nat):Int):=lB (O)
 simp only[w1,w2,x1,e1,e2,e3,e4,e7]
 rw[iU _ (O),sW _ (O),sW _ (O),zu hr,wa]
theorem BG{x y b:Nat}(N:x<4294967296)(hy:y<4294967296)(I:b<=1) :
  (kV (x:Int) (y:Int) (b:Int)).run=some ((((x+4294967296*(if x<y+b then 1 else 0))-(y+b):Nat):Int),((if x<y+b then 1 else 0:Nat):Int)):=by
 have e1:=zl4 N hy I
 have e2:=TE N hy I rfl
 unfold kV
 rw[iU _ (O),e1,e2,wa]
 grind
theorem Ri{x y b:Nat}(N:x<4294967296)(hy:y<4294967296)(I:b<=1) :
  (eL (x:Int) (y:Int) (b:Int)).run=some ((((x+y+b) % 4294967296:Nat):Int),(((x+y+b) / 4294967296:Nat):Int)):=by
 have e:wk (wk ((x:Int)+(y:Int))+(b:Int))=((x+y+b:Nat):Int):=by rw[gQ (x:=(x:Int)+y) (O) (O),gQ (O) (O)]; omega
 unfold eL
 rw[iU _ (O),lB (O),lB (O),lB (O),e,EE,z1m,K7 (O),wa]
theorem fj(xs:List Int)(o i:Nat)(x:Int):(xs.set (o+i) x).drop o=(xs.drop o).set i x:=by
 rw[List.drop_set,if_neg (O)]; congr 1; omega
theorem rH(xs:List Int)(o i:Nat):lm (xs.drop o) i=lm xs (o+i):=by
 unfold lm nth
 grind
theorem z3j{zC X' P hx c bo q v w lo hi d κ' k:Nat}(h:zC+q*hx=κ'+(bo+c)*P)(hs:X'+P*w=zC+P*d)(hc:c+q*v=lo+4294967296*hi)(J:d+(lo+bo)=w+4294967296*k) :
  X'+q*(hx+P*v)=κ'+(k+hi)*(P*4294967296):=xz
theorem zkU{c q v:Nat}(hc:c<4294967296)(hq:q<4294967296)(hv:v<4294967296):wk ((c:Int)+wk ((q:Int)*(v:Int)))=((c+q*v:Nat):Int)/\(c+q*v) / 4294967296<4294967296:=by
 have h:=Jl hq hv
 have e:(q:Int)*(v:Int)=((q*v:Nat):Int):=qz
 rw[e]
 generalize q*v=z at *
 rw[gQ (x:=(z:Int)) (O) (O),gQ (O) (O)]
 omega
theorem zdh(b:List Int)(I:qx b)(lb:b.length<=1000000000)(q:Nat)(hq:q<4294967296)(u:List Int)(hu:qx u)(o:Nat)(ho:o+b.length<u.length) :
  ∃ r:(Nat×Nat)×Int×Int×List Int,(Xh b (q:Int) b (b.length:Int) ((o,b.length+1),0,0,0,u)).run=some r/\r.1=(o,b.length+1)/\∃ c bo:Nat,r.2.1=(c:Int)/\r.2.2.1=(bo:Int)/\c<4294967296/\bo<=1/\qx r.2.2.2 /\
   r.2.2.2.length=u.length/\r.2.2.2.take o=u.take o/\(r.2.2.2.drop o).drop b.length=(u.drop o).drop b.length/\nv (r.2.2.2.drop o)+q*nv b=nv (u.drop o)+(bo+c)*4294967296 ^ b.length:=by
 refine T.cA (λs:(Nat×Nat)×Int×Int×Int×List Int=>s.1=(o,b.length+1)/\∃ c bo i:Nat,s.2.1=(c:Int)/\s.2.2.1=(bo:Int)/\s.2.2.2.1=(i:Int)/\c<4294967296/\bo<=1/\i<=b.length/\qx s.2.2.2.2 /\
   s.2.2.2.2.length=u.length/\s.2.2.2.2.take o=u.take o/\(s.2.2.2.2.drop o).drop i=(u.drop o).drop i/\nv (s.2.2.2.2.drop o)+q*nv (b.take i)=nv (u.drop o)+(bo+c)*4294967296 ^ i)
  (λs=>b.length-s.2.2.2.1.toNat) _ ?_ ⟨rfl,0,0,0,rfl,rfl,rfl,O,O,O,hu,rfl,rfl,rfl,qz⟩
 rintro⟨_,_,_,_,xs⟩ ⟨rfl,c,bo,i,rfl,rfl,rfl,hc,hbo,hi,R,hn,ht,J,hv⟩
 simp only at R hn ht J hv ⊢
 by_cases wM:i<b.length
 ·left
  have hw:=ly I i
  have N:=ly R (o+i)
  obtain⟨m1,m2⟩:=zkU hc hq hw
  have hs:=BG N (show(c+q*lm b i) % 4294967296<4294967296 by omega) hbo
  have Ez:lm xs (o+i)+4294967296*(if lm xs (o+i)<(c+q*lm b i) % 4294967296+bo then 1 else 0)-((c+q*lm b i) % 4294967296+bo)<4294967296:=by split<;>omega
  have T8:(if lm xs (o+i)<(c+q*lm b i) % 4294967296+bo then 1 else 0)<=1:=by split<;>omega
  have hde:lm xs (o+i)+4294967296*(if lm xs (o+i)<(c+q*lm b i) % 4294967296+bo then 1 else 0)-((c+q*lm b i) % 4294967296+bo)+((c+q*lm b i) % 4294967296+bo)=lm xs (o+i)+4294967296*(if lm xs (o+i)<(c+q*lm b i) % 4294967296+bo then 1 else 0):=by split<;>omega
  generalize hD:lm xs (o+i)+4294967296*(if lm xs (o+i)<(c+q*lm b i) % 4294967296+bo then 1 else 0)-((c+q*lm b i) % 4294967296+bo)=D at *
  generalize hB:(if lm xs (o+i)<(c+q*lm b i) % 4294967296+bo then 1 else 0)=B2 at *
  refine⟨((o,b.length+1),((((c+q*lm b i) / 4294967296:Nat)):Int),(B2:Int),((i+1:Nat):Int),xs.set (o+i) (D:Int)),?_,
   ⟨rfl,(c+q*lm b i) / 4294967296,B2,i+1,rfl,rfl,rfl,m2,T8,O,jX R _ Ez,by simpa using hn,?_,?_,?_⟩,by simp; omega⟩
  ·unfold iI
   have ew:wk (lm b i:Int)=lm b i:=lB (O)
   simp only[br,iK I,B,oJ R,ew,m1,z1m,EE,i1 i (O)]
   rw[vG (by simp; omega),vL _ (O) (O),vL _ (O) (O),fD _ rfl (O),zu hs]
   simp only
   rw[vL _ (O) (O),fD _ rfl (O),iU _ (O),xi rfl,yX _ (qz),wa]
  ·simp only
   rw[zS (O),ht]
  ·simp only
   rw[fj,cC]
   have:=congrArg (xK 1) J
   rw[qE,qE,]at this
   simpa[xC,qG]using this
  ·simp only
   rw[fj,ve,zF]
   have nT:=CR (a:=xs.drop o) (i:=i) (D:Int) (by simp; omega)
   rw[B,rH]at nT
   exact z3j (lo:=(c+q*lm b i) % 4294967296) hv nT (by generalize c+q*lm b i=z; omega) hde
 ·right
  have:i=b.length:=O
  subst this
  refine⟨((o,b.length+1),(c:Int),(bo:Int),xs),?_,rfl,c,bo,rfl,rfl,hc,hbo,R,hn,ht,J,by simpa[List.take_length]using hv⟩
  unfold iI
  simp
theorem Tx{zC X' P hx m v w d hi κ':Nat}(h:zC+m*P=κ'+hx)(hs:X'+P*w=zC+P*d)(J:d+4294967296*hi=w+v+m):X'+hi*(P*4294967296)=κ'+(hx+P*v):=xz
theorem zdi(b:List Int)(I:qx b)(lb:b.length<=1000000000)(u:List Int)(hu:qx u)(o:Nat)(ho:o+b.length<u.length) :
  ∃ r:(Nat×Nat)×Int×List Int,(Xi b b (b.length:Int) ((o,b.length+1),0,0,u)).run=some r/\r.1=(o,b.length+1)/\∃ m:Nat,r.2.1=(m:Int)/\m<=1/\qx r.2.2 /\
   r.2.2.length=u.length/\r.2.2.take o=u.take o/\(r.2.2.drop o).drop b.length=(u.drop o).drop b.length/\nv (r.2.2.drop o)+m*4294967296 ^ b.length=nv (u.drop o)+nv b:=by
 refine T.cA (λs:(Nat×Nat)×Int×Int×List Int=>s.1=(o,b.length+1)/\∃ m i:Nat,s.2.1=(m:Int)/\s.2.2.1=(i:Int)/\m<=1/\i<=b.length/\qx s.2.2.2 /\
   s.2.2.2.length=u.length/\s.2.2.2.take o=u.take o/\(s.2.2.2.drop o).drop i=(u.drop o).drop i/\nv (s.2.2.2.drop o)+m*4294967296 ^ i=nv (u.drop o)+nv (b.take i))
  (λs=>b.length-s.2.2.1.toNat) _ ?_ ⟨rfl,0,0,rfl,rfl,O,O,hu,rfl,rfl,rfl,qz⟩
 rintro⟨_,_,_,xs⟩ ⟨rfl,m,i,rfl,rfl,hm,hi,R,hn,ht,J,hv⟩
 simp only at R hn ht J hv ⊢
 by_cases wM:i<b.length
 ·left
  have hw:=ly I i
  have N:=ly R (o+i)
  have hs:=Ri N hw hm
  refine⟨((o,b.length+1),(((lm xs (o+i)+lm b i+m) / 4294967296:Nat):Int),((i+1:Nat):Int),xs.set (o+i) (((lm xs (o+i)+lm b i+m) % 4294967296:Nat):Int)),?_,
   ⟨rfl,_,i+1,rfl,rfl,O,O,jX R _ (O),by simpa using hn,?_,?_,?_⟩,by simp; omega⟩
  ·unfold iJ
   simp only[br,iK I,B,oJ R,i1 i (O)]
   rw[vG (by simp; omega),vL _ (O) (O),vL _ (O) (O),fD _ rfl (O),zu hs]
   simp only
   rw[vL _ (O) (O),fD _ rfl (O),xi rfl,yX _ (qz),wa]
  ·simp only
   rw[zS (O),ht]
  ·simp only
   rw[fj,cC]
   have:=congrArg (xK 1) J
   simpa[xC,qG]using this
  ·simp only
   rw[fj,ve,zF]
   have nT:=CR (a:=xs.drop o) (i:=i) (((lm xs (o+i)+lm b i+m) % 4294967296:Nat):Int) (by simp; omega)
   rw[B,rH]at nT
   exact Tx hv nT (O)
 ·right
  have:i=b.length:=O
  subst this
  refine⟨((o,b.length+1),(m:Int),xs),?_,rfl,m,rfl,hm,R,hn,ht,J,by simpa[List.take_length]using hv⟩
  unfold iJ
  simp
theorem Xk{D:List Int}(R:qx D)(k:Nat)(hk:k<=D.length)(h:nv D<4294967296 ^ k):nv (D.drop k)=0:=by
 have h1:=nj D k hk
 rcases qB (nv (D.drop k))with z | z
 ·exact z
 ·have:=zK (4294967296 ^ k) z
  omega
theorem Uq{D:List Int}(R:qx D)(k:Nat)(hk:k<=D.length)(h:nv (D.drop k)=0):nv D<4294967296 ^ k:=by
 have h1:=nj D k hk
 have M:=c8 R k
 grind
theorem z1i{zC X' P q hx c bo w d κ' k:Nat}(h:zC+q*hx=κ'+(bo+c)*P)(hs:X'+P*w=zC+P*d)(J:d+(c+bo)=w+4294967296*k):X'+q*hx=κ'+k*(P*4294967296):=xz
theorem Tz{κ κ' zC oE P L m p hx:Nat}(h1:κ+P*L=κ'+P*((L+m) % 4294967296))(M:κ'+m*P=zC+hx)(h3:zC+(p+1)*hx=oE+1*(P*4294967296))(h4:κ<P*4294967296)(h5:(p+1)*hx<=oE+hx)
  (hm:m<=1) (hL:L<4294967296):κ+(p+1-1)*hx=oE:=by
 by_cases hov:L+m<4294967296
 ·rw[qS hov,qO]at h1
  grind
 ·have zst:(L+m) % 4294967296=0:=O
  grind
theorem SY(b:List Int)(I:qx b)(lb:b.length<=1000000000)(q:Nat)(hq:q<4294967296)(u:List Int)(hu:qx u)(lu:u.length<=4000000000)(o:Nat)(ho:o+b.length<u.length)
  (GY:nv (u.drop o)<4294967296 ^ (b.length+1)) (zge:q*nv b<=nv (u.drop o)+nv b) :
  ∃ xs:List Int,(sP (o,b.length+1) b (q:Int) u).run=some (decide (nv (u.drop o)<q*nv b),xs)/\qx xs/\xs.length=u.length/\xs.take o=u.take o /\
   nv (xs.drop o)+(if nv (u.drop o)<q*nv b then q-1 else q)*nv b=nv (u.drop o):=by
 obtain⟨⟨_,_,_,xs⟩,hr,rfl,c,bo,rfl,rfl,hc,hbo,R,hn,ht,J,hv⟩:=zdh b I lb q hq u hu o ho
 simp only at R hn ht J hv
 have hBl:=YZ I
 have N:=ly R (o+b.length)
 have hs:=BG N hc hbo
 have Ez:lm xs (o+b.length)+4294967296*(if lm xs (o+b.length)<c+bo then 1 else 0)-(c+bo)<4294967296:=by split<;>omega
 have T8:(if lm xs (o+b.length)<c+bo then 1 else 0)<=1:=by split<;>omega
 have hde:lm xs (o+b.length)+4294967296*(if lm xs (o+b.length)<c+bo then 1 else 0)-(c+bo)+(c+bo)=lm xs (o+b.length)+4294967296*(if lm xs (o+b.length)<c+bo then 1 else 0):=by split<;>omega
 generalize lm xs (o+b.length)+4294967296*(if lm xs (o+b.length)<c+bo then 1 else 0)-(c+bo)=D at *
 generalize (if lm xs (o+b.length)<c+bo then 1 else 0)=B2 at *
 have nT:=CR (a:=xs.drop o) (i:=b.length) (D:Int) (by simp; omega)
 rw[B,rH,<- fj]at nT
 have z0R:=z1i hv nT hde
 have hl1:qx (xs.set (o+b.length) (D:Int)):=jX R _ Ez
 have Yl:(xs.set (o+b.length) (D:Int)).length=u.length:=by simpa using hn
 have ht1:(xs.set (o+b.length) (D:Int)).take o=u.take o:=by rw[zS (O),ht]
 have hd1:((xs.set (o+b.length) (D:Int)).drop o).drop (b.length+1)=(u.drop o).drop (b.length+1):=by
  rw[fj,cC]
  have:=congrArg (xK 1) J
  rw[qE,qE]at this
  simpa[xC,qG]using this
 have hz:=Xk (rG hu o) (b.length+1) (by simp; omega) GY
 have z0X:nv ((xs.set (o+b.length) (D:Int)).drop o)<4294967296 ^ (b.length+1):=Uq (rG hl1 o) _ (by simp; omega) (by rw[hd1]; exact hz)
 have zm0:(4294967296:Nat) ^ (b.length+1)=4294967296 ^ b.length*4294967296:=zF ..
 have ec:gP (c:Int)=c:=K7 hc
 unfold sP
 rw[yX _ rfl,yX _ rfl,zu hr]
 simp only[B,br,oJ R,ec]
 rw[vL _ (O) (O),fD _ rfl (O),zu hs]
 simp only
 rw[vL _ (O) (O),fD _ rfl (O)]
 generalize hX:xs.set (o+b.length) (D:Int)=zC at *
 rcases qB B2 with z | z
 ·subst z
  rw[vG (qz),yX _ (O),wa]
  grind
 ·have hB2:B2=1:=O
  subst hB2
  have wM:nv (u.drop o)<q*nv b:=O
  obtain⟨⟨_,_,ys⟩,hr2,rfl,m,rfl,hm,ZL,Ct,RV,hd2,EM⟩:=zdi b I lb zC hl1 o (O)
  simp only at ZL Ct RV hd2 EM
  have hy:=ly ZL (o+b.length)
  have eu:gP ((lm ys (o+b.length):Int)+(m:Int))=(((lm ys (o+b.length)+m) % 4294967296:Nat):Int):=by rw[<- z1m]; rfl
  rw[j7 (qz),xi rfl,yX _ (O),zu hr2]
  simp only[B,br,oJ ZL,eu]
  rw[vL _ (O) (O),fD _ rfl (O),vL _ (O) (O),fD _ rfl (O),yX _ (qz),wa]
  have z9Q:=CR (a:=ys.drop o) (i:=b.length) (((lm ys (o+b.length)+m) % 4294967296:Nat):Int) (by simp; omega)
  rw[B,rH,<- fj]at z9Q
  have hl3:qx (ys.set (o+b.length) (((lm ys (o+b.length)+m) % 4294967296:Nat):Int)):=jX ZL _ (O)
  have hd3:((ys.set (o+b.length) (((lm ys (o+b.length)+m) % 4294967296:Nat):Int)).drop o).drop (b.length+1)=(u.drop o).drop (b.length+1):=by
   rw[fj,cC,<- hd1]
   have:=congrArg (xK 1) hd2
   rw[qE,qE]at this
   simpa[xC,qG]using this
  have zga:nv ((ys.set (o+b.length) (((lm ys (o+b.length)+m) % 4294967296:Nat):Int)).drop o)<4294967296 ^ (b.length+1):=Uq (rG hl3 o) _ (by simp; omega) (by rw[hd3]; exact hz)
  refine⟨_,by rw[decide_eq_true wM],hl3,by simp; omega,?_,?_⟩
  ·rw[zS (O),RV,ht1]
  ·rw[if_pos wM]
   generalize nv ((ys.set (o+b.length) (((lm ys (o+b.length)+m) % 4294967296:Nat):Int)).drop o)=κ at *
   obtain⟨p,rfl⟩:∃ p,q=p+1:=⟨q-1,by
    rcases qB q with h | h
    ·subst h; omega
    ·omega⟩
   rw[zm0]at zga
   exact Tz z9Q EM z0R zga zge hm hy
def ZO:zx:=[0,1,2,2,3,3,3,3,4,4,4,4,4,4,4,4]++X 16 5++X 32 6++X 64 7++X 128 8
theorem S7:∀ y:Fin 256,y.val≠0->1<=(ZO.getD y.val 0).toNat/\(ZO.getD y.val 0).toNat<=8/\2 ^ ((ZO.getD y.val 0).toNat-1)<=y.val/\y.val<2 ^ (ZO.getD y.val 0).toNat:=by decide +kernel
set_option maxRecDepth 100000 in
theorem Lb:ZO.length=256:=by rfl
theorem len8{y:Nat}(h0:0<y)(h:y<256):∃ t:Nat,ur ZO (y:Int)=(t:Int)/\1<=t/\t<=8/\2 ^ (t-1)<=y/\y<2 ^ t:=by
 have:=S7 ⟨y,h⟩ (by simp; omega)
 refine⟨(ZO.getD y 0).toNat,?_,this⟩
 unfold ur
 rw[B]
theorem Pt{x s:Nat}(hs:s<=32):jk .u32 (x:Int) (s:Int)=((x / 2 ^ s:Nat):Int):=by
 show Int.fdiv (x:Int) (2 ^ (min (s:Int).toNat 32))=_
 grind
set_option maxRecDepth 100000 in
theorem S6{x:Nat}(h0:0<x)(h:x<4294967296):∃ t:Nat,(eN (x:Int)).run=some (t:Int)/\1<=t/\t<=32/\2 ^ (t-1)<=x/\x<2 ^ t:=by
 have zn8:eN (x:Int)=(.W (((decide ((65536:Int)<=(x:Int)))=true)->((0:Int)<=(16:Int))) <|
  .W (((decide ((256:Int)<=(bif (decide ((65536:Int)<=(x:Int)))then(jk .u32 (x:Int) (16:Int))else(x:Int))))=true)->((0:Int)<=(8:Int))) <|
  .W (xe (wu8 (bif (decide ((256:Int)<=(bif (decide ((65536:Int)<=(x:Int)))then(jk .u32 (x:Int) (16:Int))else(x:Int))))then(jk .u32 (bif (decide ((65536:Int)<=(x:Int)))then(jk .u32 (x:Int) (16:Int))else(x:Int)) (8:Int))else(bif (decide ((65536:Int)<=(x:Int)))then(jk .u32 (x:Int) (16:Int))else(x:Int)))) ZO.length) <|
  .ret (qo ((bif (decide ((256:Int)<=(bif (decide ((65536:Int)<=(x:Int)))then(jk .u32 (x:Int) (16:Int))else(x:Int))))then(qo ((bif (decide ((65536:Int)<=(x:Int)))then(16:Int)else(0:Int))+(8:Int)))else(bif (decide ((65536:Int)<=(x:Int)))then(16:Int)else(0:Int)))+(qo (ur ZO (wu8 (bif (decide ((256:Int)<=(bif (decide ((65536:Int)<=(x:Int)))then(jk .u32 (x:Int) (16:Int))else(x:Int))))then(jk .u32 (bif (decide ((65536:Int)<=(x:Int)))then(jk .u32 (x:Int) (16:Int))else(x:Int)) (8:Int))else(bif (decide ((65536:Int)<=(x:Int)))then(jk .u32 (x:Int) (16:Int))else(x:Int)))))))):T Int):=by rfl
 rw[zn8,Lb]
 -- y: what is left; k: how many bits ahead of it
 obtain⟨y,k,e1,e2,hk,hy0,hy,hlo,hhi⟩:∃ y k:Nat,(bif (decide ((256:Int)<=(bif (decide ((65536:Int)<=(x:Int)))then(jk .u32 (x:Int) (16:Int))else(x:Int))))then(jk .u32 (bif (decide ((65536:Int)<=(x:Int)))then(jk .u32 (x:Int) (16:Int))else(x:Int)) (8:Int))else(bif (decide ((65536:Int)<=(x:Int)))then(jk .u32 (x:Int) (16:Int))else(x:Int)))=(y:Int) /\
   (bif (decide ((256:Int)<=(bif (decide ((65536:Int)<=(x:Int)))then(jk .u32 (x:Int) (16:Int))else(x:Int))))then(qo ((bif (decide ((65536:Int)<=(x:Int)))then(16:Int)else(0:Int))+(8:Int)))else(bif (decide ((65536:Int)<=(x:Int)))then(16:Int)else(0:Int)))=(k:Int) /\
   k<=24/\0<y/\y<256/\y*2 ^ k<=x/\x<(y+1)*2 ^ k:=by
  have s16:jk .u32 (x:Int) 16=((x / 65536:Nat):Int):=Pt (s:=16) (O)
  have s8:∀ z:Nat,jk .u32 (z:Int) 8=((z / 256:Nat):Int):=λz=>Pt (s:=8) (O)
  by_cases c1:65536<=x
  ·rw[show decide ((65536:Int)<=(x:Int))=true from decide_eq_true (O)]
   simp only[cond_true,s16]
   by_cases c2:256<=x / 65536
   ·rw[show decide ((256:Int)<=((x / 65536:Nat):Int))=true from decide_eq_true (O)]
    simp only[cond_true,s8]
    exact⟨x / 65536 / 256,24,rfl,xn,O,O,O,O,O⟩
   ·rw[show decide ((256:Int)<=((x / 65536:Nat):Int))=false from decide_eq_false (O)]
    simp only[cond_false]
    exact⟨x / 65536,16,rfl,rfl,O,O,O,O,O⟩
  ·rw[show decide ((65536:Int)<=(x:Int))=false from decide_eq_false (O)]
   simp only[cond_false]
   by_cases c2:256<=x
   ·rw[show decide ((256:Int)<=(x:Int))=true from decide_eq_true (O)]
    simp only[cond_true,s8]
    exact⟨x / 256,8,rfl,xn,O,O,O,O,O⟩
   ·rw[show decide ((256:Int)<=(x:Int))=false from decide_eq_false (O)]
    simp only[cond_false]
    exact⟨x,0,rfl,rfl,O,O,O,O,O⟩
 obtain⟨t,t1,t2,t3,t4,t5⟩:=len8 hy0 hy
 rw[e1,e2,zdr (O) (O),t1,qv (x:=(t:Int)) (O) (O),qv (O) (O)]
 refine⟨k+t,?_,O,O,?_,?_⟩
 ·rw[xi (λ_=>O),xi (λ_=>O),vL _ (O) (O),wa]; rfl
 ·rw[show k+t-1=(t-1)+k by omega,qA]
  exact zQ (E _ t4) hlo
 ·rw[show k+t=t+k by omega,qA]
  exact Nat.lt_of_lt_of_le hhi (E _ t5)
theorem z2d{x:Nat}(h0:0<x)(h:x<4294967296):∃ s:Nat,(kg (x:Int)).run=some (s:Int)/\s<32/\2147483648<=x*2 ^ s/\x*2 ^ s<4294967296:=by
 obtain⟨t,t1,t2,t3,t4,t5⟩:=S6 h0 h
 refine⟨32-t,?_,O,?_,?_⟩
 ·unfold kg
  rw[zu t1,wa,qv (O) (O)]
  grind
 ·have:=E (2 ^ (32-t)) t4
  rw[<- qA,show t-1+(32-t)=31 by omega]at this
  exact this
 ·have:=qD t5 (show 0<2 ^ (32-t)from zT (O))
  rw[<- qA,show t+(32-t)=32 by omega]at this
  exact this
theorem horner(a b c:Nat):(a*4294967296+b)*4294967296+c=a*18446744073709551616+b*4294967296+c:=by
 rw[Nat.add_mul,qJ]
theorem IP{u2 u1 u0 v1 v2:Nat}(M:u2<4294967296)(h1:u1<4294967296)(h0:u0<4294967296)(hv1:v1<4294967296)(EM:v2<4294967296)(hn:2147483648<=v1)
  (ht:(u2*4294967296+u1)*4294967296+u0<(v1*4294967296+v2+1)*4294967296) :
  (pj (u2:Int) (u1:Int) (u0:Int) (v1:Int) (v2:Int)).run=some ((min (((u2*4294967296+u1)*4294967296+u0) / (v1*4294967296+v2)) 4294967295:Nat):Int):=by
 rw[horner]at ht ⊢
 exact RG M h1 h0 hv1 EM hn ht
theorem z3k(a b P t:Nat):t+P*b+P*4294967296*a=(a*4294967296+b)*P+t:=xz
theorem zl6(d:List Int)(n:Nat)(hn:d.length=n+2):nv d=(lm d (n+1)*4294967296+lm d n)*4294967296 ^ n+nv (d.take n):=by
 have h1:=ve d n
 have M:=ve d (n+1)
 rw[gM (O)]at M
 rw[M,h1,zF,z3k]
theorem z3l{zA a b c P Hi t1 t2 t3:Nat}(h1:t1=Hi+P*c)(M:t2=t1+P*zA*b)(h3:t3=t2+P*zA*zA*a):t3=((a*zA+b)*zA+c)*P+Hi:=by
 rw[h3,M,h1]; grind
theorem zpg(w:List Int)(n:Nat)(h:nv (w.drop (n+1+1+1))=0):nv w=((lm w (n+1+1)*4294967296+lm w (n+1))*4294967296+lm w n)*4294967296 ^ n+nv (w.take n):=by
 have h0:nv w=nv (w.take (n+1+1+1)):=by
  by_cases c:n+1+1+1<=w.length
  ·have:=nj w (n+1+1+1) c
   rw[h,Nat.mul_zero,qH]at this; exact this
  ·rw[gM (O)]
 have h1:=ve w n
 have M:=ve w (n+1)
 have h3:=ve w (n+1+1)
 rw[zF]at M
 rw[zF,zF,<- h0]at h3
 exact z3l h1 M h3
theorem Lc{a b:List Int}{k i:Nat}(h:a.take k=b.take k)(hi:i<k):lm a i=lm b i:=by
 have e:=congrArg (λl=>l[i]?) h
 simp only[qW,if_pos hi]at e
 unfold lm nth
 rw[zP,zP,B,e]
theorem zdl{U3 V2 D zC κ' oE zD:Nat}(hU:oE=U3*D+zC)(hV:zD=V2*D+κ')(hY:κ'<D)(hUV:oE<zD*4294967296):U3<(V2+1)*4294967296:=by
 have h1:U3*D<(V2+1)*4294967296*D:=by
  have e:(V2+1)*4294967296*D=(V2*D+D)*4294967296:=xz
  rw[e]
  have:zD*4294967296<=(V2*D+D)*4294967296:=E _ (O)
  omega
 exact zU h1
theorem T3(d:List Int)(J:qx d)(n:Nat)(hn:d.length=n+2)(EL:2147483648<=lm d (n+1))(w:List Int)(hw:qx w)(hwl:n+1+1+1<=w.length)(hW:nv w<nv d*4294967296) :
  ∃ x:Nat,(pj (lm w (n+1+1):Int) (lm w (n+1):Int) (lm w n:Int) (lm d (n+1):Int) (lm d n:Int)).run=some (x:Int)/\x<4294967296/\nv w / nv d<=x/\x<=nv w / nv d+1/\nv w<4294967296 ^ (d.length+1):=by
 have Ez:=YZ J
 have hdt:=zl6 d n hn
 have hdn:=c8 J n
 have hWp:nv w<4294967296 ^ (d.length+1):=by
  rw[zF]
  exact Nat.lt_of_lt_of_le hW (E _ (Nat.le_of_lt Ez))
 have hz:=Xk hw (d.length+1) (O) hWp
 rw[show d.length+1=n+1+1+1 by omega]at hz
 have ht3:=zpg w n hz
 have hwn:=c8 hw n
 have hU3:=zdl ht3 hdt hdn hW
 refine⟨_,IP (ly hw _) (ly hw _) (ly hw _) (ly J _) (ly J _) EL hU3,?_,?_,?_,hWp⟩
 ·exact zG (Nat.min_le_right _ _) (xn)
 ·refine(MO ht3 hwn hdt hdn ?_ hW rfl).1
  exact zQ (E 4294967296 EL) (Nat.le_add_right _ _)
 ·refine(MO ht3 hwn hdt hdn ?_ hW rfl).2
  exact zQ (E 4294967296 EL) (Nat.le_add_right _ _)
theorem znV{zk zD x:Nat}(g2:x<=zk / zD+1):x*zD<=zk+zD:=by
 have h1:=E zD g2
 have M:=qV zk zD
 rw[Nat.add_mul,Nat.one_mul]at h1
 omega
theorem digit{zk zD x:Nat}(hV:0<zD)(g1:zk / zD<=x)(g2:x<=zk / zD+1):(if zk<x*zD then x-1 else x)=zk / zD:=by
 have hdm:=qC zk zD
 have hml:=zV zk hV
 have hz:0<=zk / zD:=xB _
 split
 ·rename_i c
  have:x≠zk / zD:=by
   intro h
   rw[h,zE]at c; omega
  generalize zk / zD=z at *
  omega
 ·rename_i c
  have hle:x<=zk / zD:=(zN hV).2 (O)
  exact Nat.le_antisymm hle g1
theorem zdp{l hx zD:Nat}(R:l<4294967296)(hN:hx<zD):l+4294967296*hx<zD*4294967296:=by
 have:=zK 4294967296 (show hx+1<=zD from hN)
 omega
theorem Ld(d:List Int)(J:qx d)(n:Nat)(hn:d.length=n+2)(ln:n<=999999990)(EL:2147483648<=lm d (n+1))(y:Int)(i:Nat)(li:i<=1000000000)(u q:List Int)(R:qx u)(lu:u.length<=2000000000)(hiu:i+d.length<u.length)
  (hq:qx q) (hiq:i<q.length) (wM:nv (u.drop (i+1))<nv d) :
  ∃ (xs:List Int) (z:Nat),(ni y d ((n+2:Nat):Int) ((i:Int),u,q)).run=some (.inl ((i:Int)-1,xs,q.set i (z:Int)))/\z<4294967296/\qx xs/\xs.length=u.length/\xs.take i=u.take i/\nv (xs.drop i)<nv d /\
   nv (xs.drop i)+z*nv d=lm u i+4294967296*nv (u.drop (i+1)):=by
 have hwd:=KC (a:=u) (i:=i) (O)
 have hW:=zdp (ly R i) wM
 rw[<- hwd]at hW
 obtain⟨x,hg,N,g1,g2,hWp⟩:=T3 d J n hn EL (u.drop i) (rG R i) (by rw[List.length_drop]; omega) hW
 have hdp:0<nv d:=zG (xB _) wM
 obtain⟨xs,hr,I1,hxn,hxt,MW⟩:=SY d J (O) x N u R (O) i hiu hWp (znV g2)
 have zbA:=digit hdp g1 g2
 rw[zbA]at MW
 rw[rH,rH,rH]at hg
 have hdq:nv (u.drop i) / nv d<4294967296:=zG g1 N
 have zbM:nv (xs.drop i)<nv d:=by
  have h1:=qC (nv (u.drop i)) (nv d)
  have M:=zV (nv (u.drop i)) hdp
  grind
 refine⟨xs,nv (u.drop i) / nv d,?_,hdq,I1,hxn,hxt,zbM,by rw[MW,hwd]⟩
 have hx1:∀ c:Bool,c=decide (nv (u.drop i)<x*nv d)->(if c=true then wk ((x:Int)-1)else(x:Int))=((nv (u.drop i) / nv d:Nat):Int):=by
  intro c hc
  rw[<- zbA]
  by_cases cc:nv (u.drop i)<x*nv d
  ·have KA:x≠0:=by intro h; subst h; omega
   rw[hc,decide_eq_true cc,if_pos rfl,if_pos cc,gQ (O) (O)]; omega
  ·grind
 generalize nv (u.drop i) / nv d=z at *
 clear g1 g2 MW zbA hW hWp wM zbM hwd
 have ei:qo ((i:Int)-1)=(i:Int)-1:=qv (O) (O)
 have a0:qo ((i:Int)+((n+2:Nat):Int))=((i+(n+1+1):Nat):Int):=by rw[qv (O) (O)]; omega
 have a1:qo (((i+(n+1+1):Nat):Int)-1)=((i+(n+1):Nat):Int):=by rw[qv (O) (O)]; omega
 have a2:qo (((i+(n+1+1):Nat):Int)-2)=((i+n:Nat):Int):=by rw[qv (O) (O)]; omega
 have a3:qo (((n+2:Nat):Int)-1)=((n+1:Nat):Int):=by rw[qv (O) (O)]; omega
 have a4:qo (((n+2:Nat):Int)-2)=((n:Nat):Int):=by rw[qv (O) (O)]; omega
 have a5:qo (((i+(n+1+1):Nat):Int)+1)=((i+(n+1+1)+1:Nat):Int):=i1 _ (O)
 have znL:i+(n+1+1)+1-i=d.length+1:=O
 unfold ni
 simp only[ei,a0,a1,a2,a3,a4,a5]
 rw[vG (qz)]
 rw[vL _ (O) (O),fD _ rfl (O),vL _ (O) (O),fD _ rfl (O),vL _ (O) (O),fD _ rfl (O),vL _ (O) (O),vL _ (O) (O)]
 simp only[B,Nat.zero_add,br,oJ R,iK J,znL]
 rw[zu hg]
 have hc:=hx1 _ rfl
 rw[zu (a:=((z:Int),xs,q)) ?_]
 ·simp only[K7 hdq]
  rw[vL _ (O) (O),fD _ rfl (O),bh _ (qz) rfl (qz),bh _ rfl rfl rfl,xi rfl,yX _ (qz),wa]
 ·rw[Xr _ (O) (O) (O),xi rfl,xi rfl,zu hr]
  simp only[Fu]
  by_cases cc:nv (u.drop i)<x*nv d
  ·rw[if_pos (decide_eq_true cc)]at hc ⊢
   rw[bh _ rfl rfl rfl,bh _ (O) rfl (O),xi rfl,xi rfl,wa,hc]
  ·rw[if_neg (by simpa using cc)]at hc ⊢
   rw[bh _ rfl rfl rfl,bh _ (O) rfl (O),xi rfl,xi rfl,wa,hc]
theorem Sw(d:List Int)(J:qx d)(m n:Nat)(hn:d.length=n+2)(hm:n+2<=m)(lm':m<=999999990)(EL:2147483648<=lm d (n+1))(u0:List Int)(hu0:qx u0)(hlu:u0.length=m+1)
  (vX:nv (u0.drop (m-(n+2)+1))<nv d) (y:Int) :
  ∃ r:List Int×List Int,(JR y d ((n+2:Nat):Int) (((m-(n+2):Nat):Int),u0,X (m-(n+2)+1) 0)).run=some r/\qx r.1/\r.1.length=m+1/\qx r.2/\r.2.length=m-(n+2)+1/\nv r.1<nv d/\nv u0=nv r.2*nv d+nv r.1:=by
 refine T.cA (λs:Int×List Int×List Int=>∃ k:Nat,s.1=(k:Int)-1/\k<=m-(n+2)+1/\qx s.2.1/\s.2.1.length=m+1/\qx s.2.2/\s.2.2.length=m-(n+2)+1/\s.2.1.take k=u0.take k /\
   nv (s.2.1.drop k)<nv d/\nv (u0.drop k)=nv (s.2.2.drop k)*nv d+nv (s.2.1.drop k))
  (λs=>(s.1+1).toNat) _ ?_ ⟨m-(n+2)+1,qz,zJ _,hu0,hlu,vN _,qz,rfl,vX,qz⟩
 rintro⟨_,u,q⟩ ⟨k,rfl,hk,R,hul,hq,hql,htk,wM,hv⟩
 simp only at R hul hq hql htk wM hv ⊢
 cases k with
 | zero =>
  right
  refine⟨(u,q),?_,R,hul,hq,hql,xz,xz⟩
  unfold ni
  simp
 | succ i =>
  left
  obtain⟨xs,z,hr,hz,I1,hxn,hxt,hxm,MW⟩:=Ld d J n hn (O) EL y i (O) u q R (O) (O) hq (O) wM
  have e1:((i+1:Nat):Int)-1=(i:Int):=O
  refine⟨((i:Int)-1,xs,q.set i (z:Int)),xz,⟨i,rfl,O,I1,hxn.trans hul,jX hq _ hz,xz,?_,hxm,?_⟩,qz⟩
  ·simp only
   have:=congrArg (List.take i) htk
   grind
  ·simp only
   rw[set_drop _ (O),B,KC (a:=u0) (O),<- Lc htk (show i<i+1 by omega)]
   grind
theorem z1r{A zA S Q hl:Nat}(hS:0<S)(h:A*S=Q*(zA*S)+hl)(hR:hl<zA*S):Q=A / zA/\hl / S=A % zA:=by
 have hB:0<zA:=zO λz=>by subst z; simp at hR
 have h1:=qC hl S
 have h3:A*S=S*(Q*zA+hl / S)+hl % S:=by
  grind
 have h4:hl % S=0:=by
  have:=congrArg (· % S) h3
  simp only[Nat.mul_mod_left]at this
  rw[qG,Nat.add_mul_mod_self_left,Nat.mod_mod]at this
  grind
 rw[h4,qH,zE A]at h3
 have h5:=qZ hS h3
 have h6:hl / S<zA:=(zM hS).2 hR
 constructor
 ·rw[h5,zE,Nat.mul_add_div hB,qI h6,qH]
 ·rw[h5,zE,Nat.mul_add_mod,qS h6]
theorem z3e{A S P D zD zC:Nat}(hA:A<D*P)(hS:S<=2147483648)(hV:2147483648*P<=zD)(hX:zC*D<=A*S)(hD:0<D)(hS0:0<S):zC<zD:=by
 have h1:A*S<D*zD:=by
  have a1:A*S<D*P*S:=qD hA hS0
  have a2:D*P*S<=D*zD:=by
   have:P*S<=zD:=by
    have:=zK P hS
    grind
   rw[qJ]
   exact zK D this
  omega
 have M:zC*D<zD*D:=by rw[zE zD]; exact zG hX h1
 exact zU M
theorem CL(a b:List Int)(ha:qx a)(I:qx b)(la:a.length<=100000000)(n:Nat)(hbn:b.length=n+2)(hba:b.length<=a.length)(EL:lm b (n+1)≠0) :
  (Ul a b).run=some (vO (nv a / nv b),vO (nv a % nv b)):=by
 have ht:=ly I (n+1)
 obtain⟨s,hs,Tg,hs2,hs3⟩:=z2d (x:=lm b (n+1)) (O) ht
 have zgl:2 ^ s<=2147483648:=by
  have:2 ^ s<=2 ^ 31:=zZ (O) (O)
  exact this
 have Ws:0<2 ^ s:=zT (O)
 have hBt:=zl6 b n hbn
 -- the divisor
 have z9F:nv b*2 ^ s<4294967296 ^ b.length:=by
  have h1:=ve b (n+1)
  rw[gM (O)]at h1
  have M:=c8 I (n+1)
  have h3:nv b<4294967296 ^ (n+1)*(lm b (n+1)+1):=by rw[h1,qO]; omega
  rw[hbn]
  have h4:(lm b (n+1)+1)*2 ^ s<=4294967296:=by
   have hm:4294967296=2 ^ (32-s)*2 ^ s:=fy s (O)
   have h5:lm b (n+1)<2 ^ (32-s):=by
    rw[hm]at hs3
    exact zU hs3
   have:=E (2 ^ s) (show lm b (n+1)+1<=2 ^ (32-s)from h5)
   grind
  have h5:nv b*2 ^ s<4294967296 ^ (n+1)*(lm b (n+1)+1)*2 ^ s:=qD h3 Ws
  have h6:4294967296 ^ (n+1)*(lm b (n+1)+1)*2 ^ s<=4294967296 ^ (n+2):=by
   rw[qJ,zF 4294967296 (n+1)]
   exact zK _ h4
  grind
 obtain⟨d,J,Ez,hdn,hdv⟩:=Xg b I (O) s b.length Tg (zJ _) (O) z9F
 have zfW:nv a*2 ^ s<4294967296 ^ (a.length+1):=by
  have h1:=YZ ha
  rw[zF]
  exact qY h1 (zQ zgl (O)) (O)
 obtain⟨u,hu,hul,hun,huv⟩:=Xg a ha (O) s (a.length+1) Tg (O) (O) zfW
 -- fq highest limb
 have z9B:2147483648<=lm d (n+1):=by
  have h1:=ve d (n+1)
  rw[gM (O),hdv]at h1
  have M:=c8 Ez (n+1)
  have h3:=ve b (n+1)
  rw[gM (O)]at h3
  have h4:4294967296 ^ (n+1)*(lm b (n+1)*2 ^ s)<=nv b*2 ^ s:=by
   rw[<- qJ]
   exact E _ (O)
  have h5:4294967296 ^ (n+1)*2147483648<=nv b*2 ^ s:=zQ (zK _ hs2) h4
  have h6:4294967296 ^ (n+1)*2147483648<4294967296 ^ (n+1)*(lm d (n+1)+1):=by
   rw[qO]; omega
  have:=Nat.lt_of_mul_lt_mul_left h6
  omega
 have vX:nv (u.drop (a.length-(n+2)+1))<nv d:=by
  have h1:=nj u (a.length-(n+2)+1) (O)
  have M:nv (u.drop (a.length-(n+2)+1))*4294967296 ^ (a.length-(n+2)+1)<=nv a*2 ^ s:=by
   rw[<- huv,h1,zE]; omega
  have h3:2147483648*4294967296 ^ (n+1)<=nv d:=by
   have h4:=ve d (n+1)
   rw[gM (O)]at h4
   have h5:=zK (4294967296 ^ (n+1)) z9B
   rw[zE 2147483648]; omega
  have h4:nv a<4294967296 ^ (a.length-(n+2)+1)*4294967296 ^ (n+1):=by
   rw[<- qA,show a.length-(n+2)+1+(n+1)=a.length by omega]
   exact YZ ha
  exact z3e h4 zgl h3 M (Fo _) Ws
 obtain⟨⟨xu,xq⟩,hr,hxu,hxun,hxq,hxqn,hxlt,MW⟩:=Sw d Ez a.length n (O) (O) (O) z9B u hul (O) vX (s:Int)
 simp only at hxu hxun hxq hxqn hxlt MW
 rw[huv,hdv]at MW
 rw[hdv]at hxlt
 obtain⟨f1,f2⟩:=z1r Ws MW hxlt
 -- the text
 have e1:qo ((b.length:Int)-1)=((n+1:Nat):Int):=by rw[qv (O) (O)]; omega
 have es:wk (s:Int)=s:=lB (O)
 have e2:qo ((a.length:Int)+1)=((a.length+1:Nat):Int):=i1 _ (O)
 have e3:qo (qo ((a.length:Int)-((n+2:Nat):Int))+1)=((a.length-(n+2)+1:Nat):Int):=by rw[qv (x:=(a.length:Int)-((n+2:Nat):Int)) (O) (O),qv (O) (O)]; omega
 have e4:qo (((a.length-(n+2)+1:Nat):Int)-1)=((a.length-(n+2):Nat):Int):=im1 _ (O)
 have e5:qo (s:Int)=s:=qv (O) (O)
 have e6:qo (0-(s:Int)) = -(s:Int):=by rw[qv (O) (O)]; omega
 unfold Ul
 simp only[e1,e2,br,iK I]
 rw[vL _ (O) (O),zu hs]
 simp only[es]
 rw[zu hu,zu J]
 simp only[e3,e4,e5,e6,B,zW,Nat.zero_add,qF,List.take_length,hdn,hbn]
 rw[T.run_mk _ (O) (O) (O) (O),xi rfl,bh _ rfl rfl rfl,bh _ rfl rfl rfl,xi rfl,Gk]
 have zna:d.take (n+2)=d:=zI (O)
 simp only[zna]
 rw[zu hr]
 simp only[List.take_length]
 rw[xi rfl,xi rfl,zu (bJ xq hxq (O)),Xr _ (O) (O) (O)]
 have ec:jI (e:=.int .u32) 0 ((n+2:Nat):Int) xu=xu.take (n+2):=by unfold jI; simp only[B,Int.toNat_zero,qF]
 have hxt:nv (xu.take (n+2))=nv xu:=by
  have h1:=nj xu (n+2) (O)
  have M:=Xk hxu (n+2) (O) (Nat.lt_trans hxlt (by rw[<- hbn]; exact z9F))
  rw[M]at h1; omega
 rw[ec]
 have hsh:(me (xu.take (n+2)) (-(s:Int))).run=some (vO (nv xu / 2 ^ s)):=by
  rcases qB s with z | z
  ·subst z
   have:=GP (xu.take (n+2)) (V1 hxu _) (by simp; omega) 0 (O)
   rw[hxt]at this
   simpa using this
  ·have:=GO (xu.take (n+2)) (V1 hxu _) (by simp; omega) s (O) z
   rw[hxt]at this
   exact this
 rw[zu hsh,wa,f2,f1]
theorem z8j{A:Nat}(k:Nat)(h:(vO A).length=k+1):lm (vO A) k≠0:=by
 intro hz
 have h1:=ve (vO A) k
 rw[gM (O),hz,Nat.mul_zero,qH,jj]at h1
 have M:=c8 (wJ A) k
 have:=uF.2 (show A<4294967296 ^ k by omega)
 omega
theorem iw(a b:List Int)(ha:qx a)(I:qx b)(la:a.length<=100000000)(lb:b.length<=100000000) :
  (dy a b).run=some (if nv b=0 then([],[],false)else(vO (nv a / nv b),vO (nv a % nv b),true)):=by
 have qa:=vK ha
 have qb:=vK I
 unfold dy
 rw[zu (bJ a ha (O)),zu (bJ b I (O))]
 generalize nv a=A at *
 generalize nv b=zA at *
 by_cases hB:zA=0
 ·subst hB
  rw[gN]; simp
 ·have jZ:(vO zA).length≠0:=by
   intro h
   exact hB (dA.1 (V h))
  rw[if_neg hB,j7 (by simpa using jZ),zu (JO _ _ (wJ A) (wJ zA) (O) (O)),jj,jj]
  by_cases wM:A<zA
  ·rw[vG (by unfold DY; rw[if_pos wM]; rfl),zu (tF _ (wJ A) (O)),wa,jj,qI wM,qS wM,gN]
  ·rw[j7 (by unfold DY; rw[if_neg wM]; split<;>simp)]
   by_cases h1:(vO zA).length=1
   ·-- by one limb
    have I0:vO zA=[(zA:Int)]:=by
     rw[XY hB]at h1 ⊢
     have:zA / 4294967296=0:=by
      have:(vO (zA / 4294967296)).length=0:=by simpa using h1
      exact dA.1 (V this)
     rw[this,gN]
     congr 1; omega
    have hBl:zA<4294967296:=by
     have:=uF.1 (Nat.le_of_eq h1)
     simpa using this
    have e0:nth (vO zA) 0 0=(zA:Int):=by rw[I0]; rfl
    have hm:=zV A (zO hB)
    have hs:=WA (vO A) (wJ A) (O) zA (O) hBl
    rw[jj]at hs
    rw[vG (by rw[h1]; rfl),vL _ (O) (O)]
    simp only[br,e0]
    rw[zu hs]
    simp only[lB (show A % zA<18446744073709551616 by omega)]
    rw[zu (Vc _ (O)),wa]
   ·obtain⟨n,hn⟩:∃ n,(vO zA).length=n+2:=⟨(vO zA).length-2,O⟩
    have hle:(vO zA).length<=(vO A).length:=by
     rcases Nat.lt_or_ge (vO A).length (vO zA).length with h | h
     ·exact absurd (Jg h) wM
     ·exact h
    have R:=CL (vO A) (vO zA) (wJ A) (wJ zA) (O) n hn hle (z8j (n+1) (O))
    rw[jj,jj]at R
    rw[j7 (by simp; omega),zu R,wa]
theorem JP(a b:List Int)(ha:qx a)(I:qx b)(la:a.length<=100000000)(lb:b.length<=100000000):(XV a b).run=some (vO (zL (nv a) (nv b))):=by
 have qa:=vK ha
 have qb:=vK I
 unfold XV
 rw[zu (tF a ha (O)),zu (tF b I (O))]
 generalize nv a=A at *
 generalize nv b=zA at *
 have key:(YX (vO A,vO zA)).run=some (vO (zL A zA)):=by
  have:=Xb (r:=rJ) (λs:List Int×List Int=>∃ A zA:Nat,s=(vO A,vO zA)/\(vO A).length<=100000000/\(vO zA).length<=100000000)
   (λs=>nv s.2) (λs=>vO (zL (nv s.1) (nv s.2))) ?_ (s:=(vO A,vO zA)) ⟨A,zA,rfl,O,O⟩
  ·rw[jj,jj]at this; exact this
  ·rintro _ ⟨A,zA,rfl,hA,hB'⟩
   simp only[jj]
   by_cases hB:zA=0
   ·right
    subst hB
    unfold rJ
    rw[gN]; simp
   ·left
    have J:=iw (vO A) (vO zA) (wJ A) (wJ zA) hA hB'
    rw[jj,jj,if_neg hB]at J
    have hm:=zV A (zO hB)
    have jZ:(vO zA).length≠0:=λh=>hB (dA.1 (V h))
    refine⟨(vO zA,vO (A % zA)),?_,⟨zA,A % zA,rfl,hB',?_⟩,by simpa using hm,?_⟩
    ·unfold rJ
     rw[vG (by simp; omega),zu J,wa]
    ·have:(vO (A % zA)).length<=(vO zA).length:=uF.2 (Nat.lt_trans hm (uF.1 (zJ _)))
     omega
    ·simp only[jj]
     rw[Nat.gcd_comm,<- Nat.gcd_rec,Nat.gcd_comm]
 rw[zu key,wa]
theorem z2G:qx [(1:Int)]:=by
 intro x N; simp at N; omega
@[simp] theorem Cc:zb (.int .u8)=(0:Int):=rfl
theorem z5q(r:Nat):ur ([48,49,50,51,52,53,54,55,56,57]:zx) ((r % 10:Nat):Int)=((48+r % 10:Nat):Int):=by
 have key:∀ d:Fin 10,ur ([48,49,50,51,52,53,54,55,56,57]:zx) ((d.val:Nat):Int)=((48+d.val:Nat):Int):=xn
 exact key ⟨r % 10,O⟩
theorem RF(q:List Int)(rest:Nat)(hr:rest<4294967296)(xs:List Int)(N:xs.length<=1000000000):(ZV q ((rest:Int),0,xs)).run=some (xs++Q3 9 rest):=by
 have:=Xb (r:=iD q) (λs:Int×Int×List Int=>∃ (r k:Nat),s.1=(r:Int)/\r<4294967296/\s.2.1=(k:Int)/\k<=9/\s.2.2.length<=1000000000+k)
  (λs=>9-s.2.1.toNat) (λs=>s.2.2++Q3 (9-s.2.1.toNat) s.1.toNat) ?_ (s:=((rest:Int),0,xs)) ⟨rest,0,rfl,hr,rfl,O,O⟩
 ·unfold ZV
  grind
 ·rintro⟨_,_,ys⟩ ⟨r,k,rfl,h1,rfl,M,h3⟩
  simp only at h3 ⊢
  by_cases hk:k<9
  ·left
   have e1:xJ (r:Int) 10=((r % 10:Nat):Int):=by rw[XA (O)]; rfl
   have e2:gP (xI (r:Int) 10)=((r / 10:Nat):Int):=by rw[Xz (O)]; exact K7 (n:=r / 10) (O)
   refine⟨(((r / 10:Nat):Int),((k+1:Nat):Int),ys++[((48+r % 10:Nat):Int)]),?_,⟨r / 10,k+1,rfl,O,rfl,O,xz⟩,xz,?_⟩
   ·unfold iD
    simp only[e1,z5q]
    rw[vG (xz)]
    simp(disch:=omega) [oI]
   ·simp only[B]
    rw[show 9-k=(9-(k+1))+1 by omega,Q3]
    simp
  ·right
   have:k=9:=O
   subst this
   unfold iD
   simp[Q3]
theorem C0(n j:Nat)(h:n<4294967296 ^ j):(blk n).length<=18*j:=by
 induction j generalizing n with
 | zero =>
  have:n=0:=by simpa using h
  subst this; rw[QH]; simp
 | succ j ih =>
  by_cases hn:n=0
  ·grind
  ·rw[Kq hn]
   by_cases M:n / 1000000000=0
   ·rw[M,QH]; simp[Fp]; omega
   ·rw[Kq M]
    have h3:n / 1000000000 / 1000000000<4294967296 ^ j:=by
     grind
    have:=ih _ h3
    simp[Fp]; omega
theorem IM(n:Nat)(hn:(vO n).length<=1000000):(ZU (vO n,[])).run=some (blk n):=by
 have hbl:=C0 n (vO n).length (uF.1 (zJ _))
 have:=Xb (r:=iC) (λs:List Int×List Int=>∃ m:Nat,s.1=vO m/\(vO m).length<=1000000/\s.2.length+(blk m).length<=18000000)
  (λs=>nv s.1) (λs=>s.2++blk (nv s.1)) ?_ (s:=(vO n,[])) ⟨n,rfl,hn,xz⟩
 ·unfold ZU
  simpa using this
 ·rintro⟨_,xs⟩ ⟨m,rfl,h1,M⟩
  simp only[jj]at M ⊢
  by_cases hm:m=0
  ·right
   subst hm
   unfold iC
   rw[gN,QH]; simp
  ·left
   have jZ:(vO m).length≠0:=λh=>hm (dA.1 (V h))
   have hs:(pn (vO m) 1000000000).run=some (vO (nv (vO m) / 1000000000),((nv (vO m) % 1000000000:Nat):Int)):=WA (vO m) (wJ m) (O) 1000000000 (O) (O)
   rw[jj]at hs
   have hbm:=Kq hm
   have hg:=RF (vO (m / 1000000000)) (m % 1000000000) (O) xs (O)
   have hlen:(vO (m / 1000000000)).length<=(vO m).length:=uF.2 (zG (qK _ _) (uF.1 (zJ _)))
   refine⟨(vO (m / 1000000000),xs++Q3 9 (m % 1000000000)),?_,⟨m / 1000000000,rfl,O,?_⟩,?_,?_⟩
   ·unfold iC
    rw[vG (xz),zu hs]
    rw[bh _ rfl rfl rfl,xi rfl,zu hg,bh _ rfl rfl rfl,xi rfl,wa]
   ·grind
   ·simp only[jj]; omega
   ·simp only[jj]
    grind
theorem SV(l:List Int)(z:Nat)(R:l≠[])(zg5:∀ x,l.getLast? = some x->x≠48)(hn:l.length+z<=100000000) :
  (Ug ((0,(l++X z 48).length),l++X z 48)).run=some ((0,l.length),l++X z 48):=by
 generalize hX:l++X z 48=zC
 have hXl:zC.length=l.length+z:=by rw[<- hX]; simp
 have Wr:0<l.length:=qT.2 R
 have RP:∀ p:Nat,wh zC p 0=if p<l.length then wh l p 0 else if p<l.length+z then 48 else 0:=by
  intro p
  unfold wh
  grind
 have:=Xb (r:=iE) (λs:(Nat×Nat)×List Int=>∃ k:Nat,s.1=(0,l.length+k)/\k<=z/\s.2=zC) (λs=>s.1.2) (λ_=>((0,l.length),zC)) ?_ (s:=((0,zC.length),zC)) ⟨z,by rw[hXl],zJ _,rfl⟩
 ·exact this
 ·rintro⟨w,y⟩ ⟨k,h1,hk,M⟩
  simp only at h1 M
  rw[h1,M]
  have e1:qo (((l.length+k:Nat):Int)-1)=((l.length+k-1:Nat):Int):=by rw[qv (O) (O)]; omega
  have hg:=RP (l.length+k-1)
  cases k with
  | zero =>
   right
   have Ta:wh l (l.length-1) 0≠48:=by
    refine zg5 _ ?_
    rw[List.getLast?_eq_getElem?]
    unfold wh
    grind
   rw[qH]at hg
   rw[if_pos (O)]at hg
   unfold iE
   simp only[qH]at e1 ⊢
   simp only[e1,B,Nat.zero_add,Cc,hg]
   rw[xi (λ_=>⟨⟨O,O⟩,⟨rfl,O⟩⟩),j7 (by simp[Ta]),xi rfl,xi rfl,wa]
  | succ k =>
   left
   refine⟨((0,l.length+k),zC),?_,⟨k,rfl,O,rfl⟩,qz,rfl⟩
   unfold iE
   simp only[e1,B,Nat.zero_add,Cc,hg]
   rw[xi (λ_=>⟨⟨O,O⟩,⟨rfl,O⟩⟩),vG (by simp; omega),Xr _ (O) (O) (O),xi rfl,xi rfl,wa]
   simp
theorem Ft(xs:List Int)(n:Nat)(hn:n<=xs.length)(N:xs.length<=1000000000):∃ ys:List Int,(kl (0,n) xs).run=some ys/\ys.length=xs.length/\ys.take n=(xs.take n).reverse:=by
 have e0:qo ((n:Int)-1)=(n:Int)-1:=qv (O) (O)
 have loop:∃ ys:List Int,(cV ((0,n),0,(n:Int)-1,xs)).run=some ys/\ys.length=xs.length/\∀ p,p<n->ys[p]? = xs[n-1-p]? := by
  refine T.cA (λs:(Nat×Nat)×Int×Int×List Int=>s.1=(0,n)/\∃ i:Nat,s.2.1=(i:Int)/\s.2.2.1=(n:Int)-1-(i:Int)/\i<=n/\s.2.2.2.length=xs.length/\2*i<=n+1/\∀ p,p<n->s.2.2.2[p]? = if p<i\/n<p+i+1 then xs[n-1-p]? else xs[p]?)
   (λs=>n-s.2.1.toNat) _ ?_ ⟨rfl,0,rfl,qz,O,rfl,O,λp hp=>by rw[if_neg (O)]⟩
  rintro⟨_,_,_,zs⟩ ⟨rfl,i,rfl,rfl,hi,R,h2i,hv⟩
  simp only at R hv ⊢
  by_cases wM:(i:Int)<(n:Int)-1-(i:Int)
  ·left
   have hj:((n:Int)-1-(i:Int)).toNat=n-1-i:=O
   have ej:qo ((n:Int)-1-(i:Int)-1)=(n:Int)-1-((i+1:Nat):Int):=by rw[qv (O) (O)]; omega
   refine⟨((0,n),((i+1:Nat):Int),(n:Int)-1-((i+1:Nat):Int),(zs.set i (wh zs (n-1-i) 0)).set (n-1-i) (wh zs i 0)),?_,⟨rfl,i+1,rfl,rfl,O,by simpa using R,O,?_⟩,by simp; omega⟩
   ·unfold jb
    simp only[hj,B,Nat.zero_add,Cc,i1 i (O),ej]
    rw[vG (decide_eq_true wM),vL _ (O) (O),fD _ rfl (O),vL _ (O) (O),fD _ rfl (O),vL _ (O) (O),fD _ rfl (O),vL _ (O) (O),fD _ (qz) (by simp; omega),xi rfl,yX _ (qz),wa]
   ·intro p hp
    have g1:=hv i (O)
    have g2:=hv (n-1-i) (O)
    rw[if_neg (O)]at g1 g2
    simp only[List.getElem?_set,List.length_set]
    by_cases c1:n-1-i=p
    ·rw[if_pos c1,if_pos (O),if_pos (O)]
     unfold wh
     grind
    ·rw[if_neg c1]
     by_cases c2:i=p
     ·rw[if_pos c2,if_pos (O),if_pos (O)]
      unfold wh
      grind
     ·grind
  ·right
   refine⟨zs,?_,R,λp hp => ?_⟩
   ·unfold jb
    rw[j7 (decide_eq_false wM),yX _ rfl,wa]
   ·grind
 obtain⟨ys,hr,R,hv⟩:=loop
 refine⟨ys,?_,R,?_⟩
 ·unfold kl
  rw[yX _ rfl,yX _ rfl,e0,zu hr,yX _ rfl,wa]
 ·apply List.ext_getElem?
  intro p
  by_cases hp:p<n
  ·have ZL:(xs.take n).length=n:=by simp; omega
   rw[qW,if_pos hp,hv p hp,List.getElem?_reverse (O),ZL,qW,if_pos (O)]
  ·rw[qR (by simp; omega),qR (by simp; omega)]
theorem H9(a:List Int)(ha:qx a)(la:a.length<=1000000):(mc a).run=some (pr (nv a)):=by
 have qa:=vK ha
 unfold mc
 rw[zu (tF a ha (O))]
 generalize nv a=n at *
 by_cases hn:n=0
 ·subst hn; rw[gN]; simp[pr]
 ·have jZ:(vO n).length≠0:=λh=>hn (dA.1 (V h))
  rw[j7 (by simpa using jZ),bh _ rfl rfl rfl,yX _ rfl,zu (IM n (O))]
  have hbl:=C0 n (vO n).length (uF.1 (zJ _))
  obtain⟨z,hz⟩:=TD n
  have hzl:=congrArg List.length hz
  rw[List.length_append,zW]at hzl
  have vX:=SV (rd n) z (zac hn) (z8L n) (O)
  rw[<- hz]at vX
  obtain⟨ys,hr,R,hv⟩:=Ft (blk n) (rd n).length (O) (O)
  rw[yX _ rfl,yX _ rfl,zu vX]
  simp only[Gk]
  rw[xi rfl,xi rfl,zu hr,yX _ R.symm,wa]
  simp only[Nat.zero_add,qF]
  rw[hv,hz,List.take_left,<- TY]
  unfold pr
  rw[if_neg hn]
def Xm(neg:Bool)(n d:Nat):Rat:=if n=0\/d=0 then(false,[],[1],())else(neg,vO (n / zL n d),vO (d / zL n d),())
def zkW(k:Nat)(a:Rat):Prop:=qx a.2.1/\qx a.2.2.1/\a.2.1.length<=k/\a.2.2.1.length<=k
theorem OS:vO 1=[1]:=by rw[XY (O),show 1 / 4294967296=0 from rfl,gN]; rfl
theorem dQ{m n:Nat}(h:m<=n):(vO m).length<=(vO n).length:=uF.2 (zG h (uF.1 (zJ _)))
theorem z8I(neg:Bool)(n d k:Nat)(hk:1<=k)(hn:(vO n).length<=k)(J:(vO d).length<=k):zkW k (Xm neg n d):=by
 unfold Xm
 split
 ·exact⟨vF,z2G,qz,xz⟩
 ·exact⟨wJ _,wJ _,zQ (dQ (qK _ _)) hn,zQ (dQ (qK _ _)) J⟩
theorem LB(neg:Bool)(n d:List Int)(hn:qx n)(J:qx d)(ln:n.length<=100000000)(ld:d.length<=100000000):(rP neg n d).run=some (Xm neg (nv n) (nv d)):=by
 have qn:=vK hn
 have qd:=vK J
 unfold rP
 rw[zu (tF n hn (O)),zu (tF d J (O))]
 generalize nv n=hx at *
 generalize nv d=D at *
 unfold Xm
 by_cases h:hx=0\/D=0
 ·rw[if_pos h]
  have e:(((vO hx).length:Int)==0||((vO D).length:Int)==0)=true:=by
   rcases h with rfl | rfl<;>simp[gN]
  have h1:(iB 1).run=some (vO 1):=Vc 1 (O)
  rw[vG e,zu h1,wa,OS]
 ·rw[if_neg h]
  have hN:hx≠0:=λz=>h (.inl z)
  have hD:D≠0:=λz=>h (.inr z)
  have n1:(vO hx).length≠0:=λh=>hN (dA.1 (V h))
  have n2:(vO D).length≠0:=λh=>hD (dA.1 (V h))
  have e:(((vO hx).length:Int)==0||((vO D).length:Int)==0)=false:=by rw[Bool.or_eq_false_iff]; exact⟨xz,xz⟩
  have hg:=JP (vO hx) (vO D) (wJ hx) (wJ D) (O) (O)
  rw[jj,jj]at hg
  have hgp:zL hx D≠0:=λz=>hN (Nat.gcd_eq_zero_iff.1 z).1
  have Ta:(vO (zL hx D)).length<=100000000:=zQ (dQ (xF D (zO hN))) (O)
  have h1:=iw (vO hx) (vO (zL hx D)) (wJ hx) (wJ _) (O) Ta
  have M:=iw (vO D) (vO (zL hx D)) (wJ D) (wJ _) (O) Ta
  rw[jj,jj,if_neg hgp]at h1 M
  rw[j7 e,zu hg,zu h1]
  rw[zu M,wa]
theorem z0e(n d:Nat)(h:zL n d≠0):zL (n / zL n d) (d / zL n d)=1:=by
 have:=Nat.gcd_mul_left (zL n d) (n / zL n d) (d / zL n d)
 rw[Nat.mul_div_cancel' (Nat.gcd_dvd_left n d),Nat.mul_div_cancel' (Nat.gcd_dvd_right n d)]at this
 have M:zL n d*zL (n / zL n d) (d / zL n d)=zL n d*1:=O
 exact qZ (zO h) M
theorem SL(neg:Bool)(n d:Nat):Xm (Xm neg n d).1 (nv (Xm neg n d).2.1) (nv (Xm neg n d).2.2.1)=Xm neg n d:=by
 by_cases h:n=0\/d=0
 ·have e:Xm neg n d=(false,[],[1],()):=by unfold Xm; rw[if_pos h]
  rw[e]; rfl
 ·have e:Xm neg n d=(neg,vO (n / zL n d),vO (d / zL n d),()):=by unfold Xm; rw[if_neg h]
  rw[e]
  have hn:n≠0:=λz=>h (.inl z)
  have J:d≠0:=λz=>h (.inr z)
  have hg:zL n d≠0:=λz=>hn (Nat.gcd_eq_zero_iff.1 z).1
  have h1:n / zL n d≠0:=Nat.div_ne_zero_iff.2 ⟨hg,xF d (zO hn)⟩
  have M:d / zL n d≠0:=Nat.div_ne_zero_iff.2 ⟨hg,Nat.gcd_le_right n (zO J)⟩
  simp only[jj]
  unfold Xm
  rw[if_neg (xz),z0e n d hg,Nat.div_one,Nat.div_one]
def norm(a:Rat):Rat:=Xm a.1 (nv a.2.1) (nv a.2.2.1)
theorem zcZ(n k:Nat)(h:(vO n).length<=k):(pr n).length<=18*k+1:=by
 unfold pr
 split
 ·simp
 ·obtain⟨z,hz⟩:=TD n
  have h1:=C0 n k (uF.1 h)
  have M:=congrArg List.length hz
  rw[List.length_append]at M
  rw[TY]
  simp only[ku,List.length_map,List.length_reverse]
  omega
end Go.AM.Lf
namespace Go.AM
namespace T
variable {α β σ ρ:Type}
theorem eY{t:T α}{Q:α->Prop}:t.wp Q↔∃ a,t.run=some a/\Q a:=⟨λh=>by obtain⟨a,h1,M⟩:=FK h; exact⟨a,yA.2 h1,M⟩,λ⟨a,h1,M⟩=>K6 (yA.1 h1) M⟩
theorem kY{t:T α}{a:α}{Q:α->Prop}(h:t.run=some a)(k:Q a):t.wp Q:=eY.2 ⟨a,h,k⟩
theorem zi{a:α}{Q:α->Prop}(h:Q a):(ret a).wp Q:=h
theorem zg{b:Bool}{t e:T α}{Q:α->Prop}(h1:b=true->t.wp Q)(M:b=false->e.wp Q):(ite b t e).wp Q:=⟨h1,M⟩
theorem uz{b:Bool}{t e:T α}{Q:α->Prop}(h:b=true)(k:t.wp Q):(ite b t e).wp Q:=by subst h; exact⟨λ_=>k,nofun⟩
theorem wC{b:Bool}{t e:T α}{Q:α->Prop}(h:b=false)(k:e.wp Q):(ite b t e).wp Q:=by subst h; exact⟨nofun,λ_=>k⟩
theorem zj{p:Prop}{t:T α}{Q:α->Prop}(h:p)(k:t.wp Q):(W p t).wp Q:=⟨h,k⟩
theorem qt{A:Type}{i:Int}{l:List A}{t:T α}{Q:α->Prop}(h:0<=i/\i<(l.length:Int))(k:t.wp Q):(oI i l t).wp Q:=⟨h,k⟩
theorem z8{A:Type}{l:List A}{t:T α}{Q:α->Prop}(k:t.wp Q):(U l t).wp Q:=⟨rfl,k⟩
theorem ze{A:Type}{l:List A}{t:T α}{Q:α->Prop}(k:t.wp Q):(oC l t).wp Q:=⟨⟨rfl,rfl,rfl⟩,k⟩
theorem uo{a b:Nat}{t:T α}{Q:α->Prop}(h:a=b)(k:t.wp Q):(oM a b t).wp Q:=⟨⟨h,rfl,h⟩,h,k⟩
theorem vT{A:Type}{l:List A}{k:Nat}{t:T α}{Q:α->Prop}(h:(l.length+1)*k<=140737488355328)(w:t.wp Q):(oA l k t).wp Q:=⟨⟨rfl,rfl,rfl,h⟩,w⟩
theorem vk{a b:zx}{t:T α}{Q:α->Prop}(h:a.length+b.length<=4611686018427387904)(k:t.wp Q):(oK a b t).wp Q:=⟨h,k⟩
theorem xl{t:T α}{f:α->T β}{Q:β->Prop}(h:t.wp λa=>(f a).wp Q):(t.bind f).wp Q:=by
 obtain⟨a,h1,M⟩:=eY.1 h
 obtain⟨b,M,h3⟩:=eY.1 M
 exact kY ((zu h1 f).trans M) h3
theorem wj{t:T α}{P Q:α->Prop}(h:t.wp P)(k:∀ a,P a->Q a):t.wp Q:=by
 obtain⟨a,h1,M⟩:=eY.1 h
 exact kY h1 (k a M)
theorem vS{r:σ->T (σ⊕ρ)}{Q:ρ->Prop}(hb:σ->Prop)(μ:σ->Nat){s:σ}(hs:hb s)
  (h:∀ s,hb s->(r s).wp λz=>match z with | .inl s'=>hb s'/\μ s'<μ s | .inr y=>Q y):(loop r s).wp Q:=by
 generalize hm:μ s=m
 induction m using zX generalizing s with
 | _ m ih =>
  obtain⟨z,h1,M⟩:=eY.1 (h s hs)
  cases z with
  | inl s' =>
   obtain⟨a,h3,h4⟩:=eY.1 (ih (μ s') (by have:=M.2; omega) M.1 rfl)
   exact kY ((XU h1).trans h3) h4
  | inr y=>exact kY (pg h1) M
theorem vR{f:α->T σ}{g:β->T σ}{z:α⊕β}{Q:σ->Prop}(h1:∀ a,z=.inl a->(f a).wp Q)(M:∀ b,z=.inr b->(g b).wp Q):(xM f g z).wp Q:=by
 cases z with
 | inl a=>exact h1 a rfl
 | inr b=>exact M b rfl
def le(t t':T α):Prop:=∀ v,t.leads v->t'.leads v
theorem le_rfl{t:T α}:le t t:=λ_ h=>h
theorem z6m{t t':T α}{f f':α->T β}(h:le t t')(k:∀ a,le (f a) (f' a)):le (t.bind f) (t'.bind f'):=λv hv=>by
 obtain⟨a,h1,M⟩:=zd.1 hv
 exact zd.2 ⟨a,h a h1,k a v M⟩
theorem zc4{c:Bool}{t t' e e':T α}(h:le t t')(k:le e e'):le (ite c t e) (ite c t' e'):=λv hv=>hv.imp (λx=>⟨x.1,h v x.2⟩) λx=>⟨x.1,k v x.2⟩
theorem zc5{p:Prop}{t t':T α}(h:le t t'):le (W p t) (W p t'):=λv hv=>⟨hv.1,h v hv.2⟩
theorem z6o{r r':σ->T (σ⊕ρ)}{s:σ}(h:∀ s,le (r s) (r' s)):le (loop r s) (loop r' s):=λv hv=>by
 obtain⟨n,hn⟩:=(eW _).1 hv
 refine(eW _).2 ⟨n,?_⟩
 clear hv
 induction hn with
 | done k=>exact .done (h _ _ k)
 | step k _ ih=>exact .step (h _ _ k) ih
theorem z6n{f f':α->T σ}{g g':β->T σ}{z:α⊕β}(h:∀ a,le (f a) (f' a))(k:∀ b,le (g b) (g' b)):le (xM f g z) (xM f' g' z):=by
 cases z with
 | inl a=>exact h a
 | inr b=>exact k b
theorem zc3{b b':(σ->T ρ)->σ->T ρ}(h:∀ F F',(∀ y,le (F y) (F' y))->∀ x,le (b F x) (b' F' x))(x:σ):le (fix b x) (fix b' x):=λv hv=>by
 have key:∀ n x,le (Wq b n x) (Wq b' n x):=by
  intro n
  induction n with
  | zero=>exact λ_=>le_rfl
  | succ n ih=>exact h _ _ ih
 obtain⟨n,hn⟩:=(lX b).1 hv
 exact(lX b').2 ⟨n,λm hm=>key m x v (hn m hm)⟩
theorem sk{b:(σ->T ρ)->σ->T ρ}(hb:σ->Prop)(μ:σ->Nat)(Q:σ->ρ->Prop)(hm:∀ g g',(∀ y,le (g y) (g' y))->∀ x,le (b g x) (b g' x))
  (h:∀ x,hb x->∀ g:σ->T ρ,(∀ y,hb y->μ y<μ x->(g y).wp (Q y))->(b g x).wp (Q x)) {x:σ} (N:hb x):(fix b x).wp (Q x):=by
 have up:∀ n x,le (Wq b n x) (Wq b (n+1) x):=by
  intro n
  induction n with
  | zero=>exact λ_ _ h=>h.elim
  | succ n ih=>exact hm _ _ ih
 have ups:∀ n m,n<=m->∀ x,le (Wq b n x) (Wq b m x):=by
  intro n m hnm
  induction hnm with
  | refl=>exact λ_=>le_rfl
  | step _ ih=>exact λx v hv=>up _ x v (ih x v hv)
 have key:∀ n x,hb x->μ x<n->(Wq b n x).wp (Q x):=by
  intro n
  induction n with
  | zero=>intro x _ h; omega
  | succ n ih=>exact λx N hn=>h x N _ λy hy wM=>ih y hy (O)
 obtain⟨a,h1,M⟩:=FK (key _ x N (Nat.lt_succ_self _))
 exact K6 ((lX b).2 ⟨_,λm hm=>ups _ m hm x a h1⟩) M
theorem Gz{t:T α}{Q:α->Prop}{a:α}(h:t.wp Q)(k:t.run=some a):Q a:=by
 obtain⟨b,h1,M⟩:=eY.1 h
 cases h1.symm.trans k
 exact M
class Sp (t:T α) (pre:outParam Prop) (post:outParam (α->Prop)):Prop where sp:pre->t.wp post
theorem za{t:T α}{f:α->T β}{pre:Prop}{post:α->Prop}{Q:β->Prop}[s:Sp t pre post](h:pre)(k:∀ a,post a->(f a).wp Q):(t.bind f).wp Q :=
 xl (wj (s.sp h) k)
theorem vA{t:T α}{pre:Prop}{post:α->Prop}{Q:α->Prop}[s:Sp t pre post](h:pre)(k:∀ a,post a->Q a):t.wp Q:=wj (s.sp h) k
end T
open PL Lf
theorem j4(x:Int):qo x=(x+9223372036854775808) % 18446744073709551616-9223372036854775808:=IntKind.wrap_i64 x
theorem fu{a:List Int}(h:qx a)(i:Nat)(x:Int):qx (a.set i (gP x)):=HX h i (by rw[Zg]; omega) (by rw[Zg]; omega)
theorem yI{α:Type}(l:List α):xK 0 (List.take (0+l.length) l)=l:=qz
theorem tN{k:IntKind}:zb (.int k)=0:=rfl
namespace T
theorem go{p:Prop} (h:p:=by
 intros
 repeat' (with_reducible first
  | refine T.zi ?_
  | refine T.zg (λ_ => ?_) (λ_ => ?_)
  | refine T.z8 ?_
  | refine T.ze ?_
  | refine T.uo ?_ ?_
  | refine T.qt ?_ ?_
  | refine T.vT ?_ ?_
  | refine T.vk ?_ ?_
  | refine T.zj ?_ ?_
  | refine T.vR (λ_ _ => ?_) (λ_ _ => ?_)
  | refine T.za ?_ (λ_ _ => ?_)
  | refine T.vA ?_ (λ_ _ => ?_)
  | refine T.xl ?_
  | dsimp only)
 all_goals grind [xe,uO,eF,jA,QM,j4,fu,vN,vF,gW,yI,ft,tN,List.length_set,List.take_length]):p:=h
theorem mono{p:Prop} (h:p:=by
 intros
 repeat' (with_reducible first
  | exact le_rfl
  | apply_assumption
  | refine z6m ?_ (λ_ => ?_)
  | refine zc4 ?_ ?_
  | refine zc5 ?_
  | refine z6o (λ_ => ?_)
  | refine z6n (λ_ => ?_) (λ_ => ?_)
  | refine zc3 (λ_ _ _ _ => ?_) _
  | dsimp only[oI,U,oC,oM,oA,oK])):p:=h
theorem lp{σ ρ:Type}{r:σ->T (σ⊕ρ)}{Q:ρ->Prop}(hb:σ->Prop)(μ:σ->Nat){s:σ}(hs:hb s:=by grind)
  (h:∀ s,hb s->(r s).wp λz=>match z with | .inl s'=>hb s'/\μ s'<μ s | .inr y=>Q y:=by
 intros
 repeat' (with_reducible first
  | refine T.zi ?_
  | refine T.zg (λ_ => ?_) (λ_ => ?_)
  | refine T.z8 ?_
  | refine T.ze ?_
  | refine T.uo ?_ ?_
  | refine T.qt ?_ ?_
  | refine T.vT ?_ ?_
  | refine T.vk ?_ ?_
  | refine T.zj ?_ ?_
  | refine T.vR (λ_ _ => ?_) (λ_ _ => ?_)
  | refine T.za ?_ (λ_ _ => ?_)
  | refine T.vA ?_ (λ_ _ => ?_)
  | refine T.xl ?_
  | dsimp only)
 all_goals grind [xe,uO,eF,jA,QM,j4,fu,vN,vF,gW,yI,ft,tN,List.length_set,List.take_length]):(loop r s).wp Q:=T.vS hb μ hs h
end T
open T
instance (a:List Int):Sp (vY a) (qx a/\a.length<=4000000000) (λr=>qx r/\r.length<=a.length):=⟨λh=>kY (bJ a h.1 h.2) ⟨wJ _,vK h.1⟩⟩
end Go.AM
namespace Go.AM
open T PL Lf
def rg(a:Lf.Rat):Prop:=qx a.2.1/\qx a.2.2.1
def rl(a:Lf.Rat):Nat:=max a.2.1.length a.2.2.1.length
theorem KQ(x:Int):wk x=x % 18446744073709551616:=FL x
def nm(a:Lf.Rat):Prop:=norm a=a
instance (d:List Int) (a:Int) (v:Int) (x3:List Int) (x4 x5:Int) (x6:List Int) (s:Int×Int×List Int):Sp (V9 d a v x3 x4 x5 x6 (x6.length:Int) s) (s.2.1=0/\qx s.2.2/\0<=a/\a+x6.length<=s.2.2.length/\s.2.2.length<=4000000000) (λr=>qx r.2/\r.2.length=s.2.2.length):=⟨λh=>by
 unfold V9 Vb
 exact lp (λ(_,i,c)=>0<=i/\i<=x6.length/\qx c/\c.length=s.2.2.length) (λ(_,i,_)=>(x6.length-i).toNat)⟩
instance (d x:List Int) (s:Int×List Int):Sp (V8 d x (x.length:Int) s) (s.1=0/\qx s.2/\s.2.length=d.length+x.length/\s.2.length<=2000000000) (λr=>qx r/\r.length=s.2.length):=⟨λh=>by
 unfold V8 Va
 exact lp (λ(i,c)=>0<=i/\i<=x.length/\qx c/\c.length=s.2.length) (λ(i,_)=>(x.length-i).toNat)⟩
instance (a b:List Int):Sp (iA a b) (qx a/\qx b/\a.length+b.length<=1000000000) (λr=>qx r/\r.length<=a.length+b.length):=⟨λh=>by unfold iA; exact go⟩
instance (a b x:List Int) (s:Int×Int×List Int):Sp (V6 a b x (x.length:Int) s) (s.2.1=0/\qx s.2.2/\s.2.2.length=x.length+1/\s.2.2.length<=2000000000) (λr=>qx r.2/\r.2.length=s.2.2.length):=⟨λh=>by
 unfold V6 V7
 exact lp (λ(_,i,c)=>0<=i/\i<=x.length/\qx c/\c.length=s.2.2.length) (λ(_,i,_)=>(x.length-i).toNat)⟩
instance (a b:List Int):Sp (Uf a b) (qx a/\qx b/\a.length+b.length<=1000000000) (λr=>qx r/\r.length<=max a.length b.length+1):=⟨λh=>by unfold Uf; exact go⟩
instance (a b:List Int):Sp (sO a b) (qx a/\qx b/\a.length+b.length<=1000000000) (λr=>r=DY (nv a) (nv b)):=⟨λh=>kY (JO a b h.1 h.2.1 (O) (O)) rfl⟩
instance (b x:List Int) (s:Int×Int×List Int):Sp (Vd b x (x.length:Int) s) (s.2.1=0/\qx s.2.2/\s.2.2.length=x.length/\s.2.2.length<=2000000000) (λr=>qx r/\r.length=s.2.2.length):=⟨λh=>by
 unfold Vd Ve kV
 exact lp (λ(_,i,c)=>0<=i/\i<=x.length/\qx c/\c.length=s.2.2.length) (λ(_,i,_)=>(x.length-i).toNat)⟩
instance (a b:List Int):Sp (Ui a b) (qx a/\qx b/\a.length+b.length<=1000000000) (λr=>qx r.1/\r.1.length<=a.length):=⟨λh=>by unfold Ui; exact go⟩
instance (a:Int):Sp (iB a) (0<=a/\a<18446744073709551616) (λr=>qx r/\r.length<=2/\r=vO a.toNat):=⟨λh=>by
 obtain⟨n,rfl⟩:=qN h.1
 exact kY (Vc n (O)) ⟨wJ _,uF.2 (O),rfl⟩⟩
instance (a b:List Int):Sp (XV a b) (qx a/\qx b/\a.length+b.length<=100000000) (λr=>r=vO (zL (nv a) (nv b))/\qx r/\r.length<=a.length+b.length):=⟨λh=>kY (JP a b h.1 h.2.1 (O) (O)) ⟨rfl,wJ _,by
 have h1:=vK h.1
 have M:=vK h.2.1
 by_cases e:nv a=0
 ·rw[e,Nat.gcd_zero_left]; omega
 ·have:=dQ (xF (nv b) (zO e)); omega⟩⟩
instance (a:List Int):Sp (mc a) (qx a/\a.length<=1000000) (λr=>r.length<=18*a.length+1):=⟨λh=>kY (H9 a h.1 h.2) (zcZ _ _ (vK h.1))⟩
instance (a b:List Int):Sp (dy a b) (qx a/\qx b/\a.length+b.length<=100000000) (λr=>qx r.1/\qx r.2.1/\r.1.length<=a.length/\r.2.1.length<=a.length):=⟨λh=>kY (iw a b h.1 h.2.1 (O) (O)) (by
 have h1:=vK h.1
 split
 ·exact⟨vF,vF,xB _,xB _⟩
 ·exact⟨wJ _,wJ _,zQ (dQ (qK _ _)) h1,zQ (dQ (Nat.mod_le _ _)) h1⟩)⟩
instance (g:Bool) (n d:List Int):Sp (rP g n d) (qx n/\qx d/\n.length+d.length<=100000000) (λr=>rg r/\rl r<=max 1 (max n.length d.length)/\nm r/\r=Xm g (nv n) (nv d)):=⟨λh=>kY (LB g n d h.1 h.2.1 (O) (O)) (by
 have:=z8I g (nv n) (nv d) (max 1 (max n.length d.length)) (O) (by have:=vK h.1; omega) (by have:=vK h.2.1; omega)
 exact⟨⟨this.1,this.2.1⟩,by unfold rl; have:=this.2.2; omega,SL _ _ _,rfl⟩)⟩
instance (a:Lf.Rat):Sp (vD a) (rg a/\rl a<=50000000) (λr=>rg r/\rl r<=max 1 (rl a)/\nm r/\r=norm a):=⟨λh=>by unfold rg rl at h; unfold vD norm; refine za (xz) λr h=>h⟩
theorem gor{p:Prop} (h:p:=by
 intros
 repeat' (with_reducible first
  | refine T.zi ?_
  | refine T.zg (λ_ => ?_) (λ_ => ?_)
  | refine T.z8 ?_
  | refine T.ze ?_
  | refine T.uo ?_ ?_
  | refine T.qt ?_ ?_
  | refine T.vT ?_ ?_
  | refine T.vk ?_ ?_
  | refine T.zj ?_ ?_
  | refine T.vR (λ_ _ => ?_) (λ_ _ => ?_)
  | refine T.za ?_ (λ_ _ => ?_)
  | refine T.vA ?_ (λ_ _ => ?_)
  | refine T.xl ?_
  | dsimp only)
 all_goals grind [xe,uO,eF,jA,QM,j4,fu,vN,vF,gW,yI,ft,tN,List.length_set,List.take_length,rg,rl,KQ]):p:=h
instance (a:Lf.Rat):Sp (cB a) (rg a/\rl a<=50000000) (λr=>r=false->rl (norm a)<=16):=⟨λh=>by unfold cB; exact gor⟩
instance (a b:Lf.Rat):Sp (oP a b) (rg a/\rg b/\rl a+rl b<=20000000) (λr=>rg r/\rl r<=rl a+rl b+2/\nm r):=⟨λh=>by unfold oP; exact gor⟩
instance (a b:Lf.Rat):Sp (oO a b) (rg a/\rg b/\rl a+rl b<=20000000) (λr=>rg r/\rl r<=rl a+rl b+3/\nm r):=⟨λh=>by unfold oO; exact gor⟩
instance (a:Lf.Rat):Sp (Q2 a) (rg a/\rl a<=50000000) (λr=>rg r/\rl r<=max 1 (rl a)):=⟨λh=>by unfold Q2 Vl; exact gor⟩
instance (a b:Lf.Rat):Sp (UA a b) (rg a/\rg b/\rl a+rl b<=10000000) (λr=>rg r/\rl r<=rl a+rl b+4/\nm r):=⟨λh=>by unfold UA; exact gor⟩
instance (a:Lf.Rat):Sp (iM a) (rg a/\rl a<=50000000) (λ_=>True):=⟨λh=>by unfold iM; exact gor⟩
instance (a b:Lf.Rat):Sp (KJ a b) (rg a/\rg b/\rl a+rl b<=10000000) (λ_=>True):=⟨λh=>by unfold KJ; exact gor⟩
instance (a:Int):Sp (yW a) (-9223372036854775808<=a/\a<=9223372036854775807) (λr=>rg r/\rl r<=2):=⟨λh=>by unfold yW; exact gor⟩
instance (a b:Lf.Rat):Sp (sT a b) (rg a/\rg b/\rl a+rl b<=10000000) (λr=>rg r.1/\rl r.1<=rl a+rl b+4/\(r.2=true->nm r.1)):=⟨λh=>by unfold sT; exact gor⟩
end Go.AM
namespace Go.AM
open T PL Lf
theorem M5(x:Int):wu8 x=x % 256:=IntKind.wrap_u8 x
theorem sN(a:zx)(h:wG a []=false):1<=a.length:=by
 cases a with
 | nil=>exact absurd h (xn)
 | cons=>simp
theorem X9(a b:zx):(cat a b).length=a.length+b.length:=List.length_append
theorem S4(l h:Int)(a:zx):(fN l h a).length<=a.length:=by unfold fN; simp; omega
theorem z2c(a p:zx):(De a p).length<=a.length:=by unfold De; split<;>simp
theorem zcI(n:Nat):∀ s:zx,(D2 s n).length=s.length*n:=by
 induction n with
 | zero=>simp[D2]
 | succ n ih=>intro s; rw[D2,List.length_append,ih,Nat.mul_succ]; omega
theorem N4(l h:Int)(a:zx)(h0:0<=l)(h1:l<=h)(M:h<=a.length):((fN l h a).length:Int)=h-l:=by unfold fN; simp; omega
theorem Wp(x:Lf.Rat):(x.1,x.2.1,x.2.2.1,())=x:=rfl
theorem Ye(e:Expr):Expr.mk e.kind ((Expr.num e).1,(Expr.num e).2.1,(Expr.num e).2.2.1,()) e.name e.kids=e:=by cases e; rfl
theorem UX(s:zx)(i:Int):0<=ur s i/\ur s i<256:=by unfold ur; have:=(s.getD i.toNat 0).toNat_lt; omega
theorem ll{p:Prop} (h:p:=by
 intros
 repeat' (with_reducible first
  | refine T.zi ?_
  | refine T.zg (λ_ => ?_) (λ_ => ?_)
  | refine T.z8 ?_
  | refine T.ze ?_
  | refine T.uo ?_ ?_
  | refine T.qt ?_ ?_
  | refine T.vT ?_ ?_
  | refine T.vk ?_ ?_
  | refine T.zj ?_ ?_
  | refine T.vR (λ_ _ => ?_) (λ_ _ => ?_)
  | refine T.za ?_ (λ_ _ => ?_)
  | refine T.vA ?_ (λ_ _ => ?_)
  | refine T.xl ?_
  | dsimp only)
 all_goals grind [xe,uO,eF,jA,QM,j4,fu,vN,vF,gW,yI,ft,tN,List.length_set,List.take_length,rg,rl,KQ,M5,X9,S4,z2c,zcI,N4,UX,wG,lh,sN]):p:=h
theorem lps{σ ρ:Type}{r:σ->T (σ⊕ρ)}{Q:ρ->Prop}(hb:σ->Prop)(μ:σ->Nat){s:σ}(hs:hb s:=by grind [xe,uO,eF,jA,QM,j4,fu,vN,vF,gW,yI,ft,tN,List.length_set,List.take_length,rg,rl,KQ,M5,X9,S4,z2c,zcI,N4,UX,wG,lh,sN])
  (h:∀ s,hb s->(r s).wp λz=>match z with | .inl s'=>hb s'/\μ s'<μ s | .inr y=>Q y:=by
 intros
 repeat' (with_reducible first
  | refine T.zi ?_
  | refine T.zg (λ_ => ?_) (λ_ => ?_)
  | refine T.z8 ?_
  | refine T.ze ?_
  | refine T.uo ?_ ?_
  | refine T.qt ?_ ?_
  | refine T.vT ?_ ?_
  | refine T.vk ?_ ?_
  | refine T.zj ?_ ?_
  | refine T.vR (λ_ _ => ?_) (λ_ _ => ?_)
  | refine T.za ?_ (λ_ _ => ?_)
  | refine T.vA ?_ (λ_ _ => ?_)
  | refine T.xl ?_
  | dsimp only)
 all_goals grind [xe,uO,eF,jA,QM,j4,fu,vN,vF,gW,yI,ft,tN,List.length_set,List.take_length,rg,rl,KQ,M5,X9,S4,z2c,zcI,N4,UX,wG,lh,sN]):(loop r s).wp Q:=T.vS hb μ hs h
instance (c:Int) (a:zx):Sp (hH c a) (a.length<=1000000000) (λr=>r.length<=a.length):=⟨λh=>by
 unfold hH hJ
 exact lps (λs=>s.length<=a.length) (λs=>s.length)⟩
instance (c:Int) (a:zx):Sp (bH c a) (a.length<=1000000000) (λr=>r.length<=a.length):=⟨λh=>by
 unfold bH bI
 exact lps (λs=>s.length<=a.length) (λs=>s.length)⟩
instance (c:den (mO .bool 256)) (a:zx):Sp (jH c a) (a.length<=1000000000) (λr=>r.length<=a.length):=⟨λh=>by
 unfold jH uB vf
 exact lps (λs=>s.length<=a.length) (λs=>s.length)⟩
instance (c:den (mO .bool 256)) (a:zx):Sp (ko c a) (a.length<=1000000000) (λr=>r.length<=a.length):=⟨λh=>by
 unfold ko uW vf
 exact lps (λs=>s.length<=a.length) (λs=>s.length)⟩
def z2D(a:zx):Bool:=decide (a.length<=1000)&&a.all λx=>decide (x.toNat<128)
theorem z2E:z2D [48,49,50,51,52,53,54,55,56,57]=true:=xn
instance (b a:zx):Sp (cp b a) (b.length<=1000000000/\z2D a=true) (λr=>r.length<=b.length):=⟨λh=>by
 unfold cp strings_trimRightByte strings_trimLeftByte strings_makeASCIISet ju jN
 simp only[z2D,Bool.and_eq_true,decide_eq_true_eq,List.all_eq_true]at h
 exact ll⟩
instance (a:zx) (s:List Int×Int):Sp (ZS a (a.length:Int) s) (a.length<=100000/\s=([],0)) (λr=>qx r/\r.length<=2*a.length+1):=⟨λh=>by
 unfold ZS ZT
 exact lps (λ(l,i)=>qx l/\0<=i/\i<=a.length/\(l.length:Int)<=2*i+1) (λ(_,i)=>(a.length-i).toNat)⟩
instance (a:zx):Sp (mb a) (a.length<=1000000000) (λr=>qx r.1/\r.1.length<=801):=⟨λh=>by have:=z2E; unfold mb; exact ll⟩
instance (n:Int) (s:List Int×Int):Sp (WT n s) (n<=100000/\qx s.1/\s.1.length<=2/\s.2=0) (λr=>qx r/\r.length<=2+2*n.toNat):=⟨λh=>by
 unfold WT WU
 exact lps (λ(l,i)=>qx l/\0<=i/\(i<=n\/i=0)/\(l.length:Int)<=2+2*i) (λ(_,i)=>(n-i).toNat)⟩
instance (n:Int):Sp (VN n) (n<=100000) (λr=>qx r/\r.length<=2+2*n.toNat):=⟨λh=>by unfold VN; exact ll⟩
instance (a:zx) (n:Int):Sp (sB a n) (0<=n/\n<=100000/\a.length<=1000000000) (λr=>r.length<=a.length+n.toNat+2):=⟨λh=>by unfold sB strings_Repeat; exact ll⟩
instance (a:Lf.Rat):Sp (QN a) True (λr=>r.length<=1):=⟨λ_=>by unfold QN; exact ll⟩
instance (a:Lf.Rat):Sp (gx a) (rg a/\rl a<=500000) (λr=>r.length<=40*rl a+50):=⟨λh=>by unfold gx; exact ll⟩
instance (a b:zx):Sp (strings_Cut a b) (a.length<=1000000000) (λr=>r.1.length+r.2.1.length<=a.length):=⟨λh=>by
 unfold strings_Cut E3
 exact T.zj (O) (T.zi (by split<;>simp<;>omega))⟩
instance (a b:zx):Sp (strings_CutPrefix a b) True (λr=>r.1.length<=a.length):=⟨λh=>by unfold strings_CutPrefix; exact ll⟩
instance (a:zx):Sp (pe a) True (λr=>rg r.1/\rl r.1<=1700):=⟨λh=>by unfold pe; exact ll⟩
instance (s:Int×Lf.Rat):Sp (Zp s) (s.1=0/\rg s.2/\rl s.2<=5000) (λr=>match r with | .inl _=>True | .inr z=>z.1.length<=18*rl s.2+2280):=⟨λh=>by
 unfold Zp Zq
 exact lps (λ(i,a)=>0<=i/\i<=61/\a=s.2) (λ(i,_)=>(61-i).toNat)⟩
instance (a:Lf.Rat):Sp (tL a) (rg a/\rl a<=5000) (λr=>r.1.length<=18*rl a+2300):=⟨λh=>by unfold tL; exact ll⟩
theorem z56(a:Lf.Rat)(h:rg a)(h1:UH a.2.1)(M:UH a.2.2.1)(h3:a.2.2.1≠[])(h4:a.1=true->a.2.1≠[])(h5:zL (nv a.2.1) (nv a.2.2.1)=1):nm a:=by
 unfold nm norm Xm
 obtain⟨b,n,d,u⟩:=a
 by_cases hn:nv n=0
 ·have:n=[]:=by rcases Decidable.em (n=[])with e | e; exact e; exact absurd hn (Ln h.1 h1 e)
  subst this
  simp at h5 h4 ⊢
  have e:vO (nv d)=d:=CU h.2 M
  rw[h5,OS]at e
  simp[h4,<- e]
 ·rw[if_neg (by have:=Ln h.2 M h3; simp[hn,this])]
  simp only[h5,Nat.div_one]
  rw[CU h.1 h1,CU h.2 M]
instance (a:List Int):Sp (ZR a) (a.length<=1000000000) (λr=>r=true->UH a):=⟨λh=>by
 unfold ZR
 refine T.zj (λh1 => ?_) (T.zi λM x N => ?_)
 ·rw[qv (O) (O)]; grind [xe]
 ·obtain⟨l,rfl⟩:=List.getLast?_eq_some_iff.1 N
  rw[qv (O) (O),show zb (.int .u32)=(0:Int)from rfl,Fa]at M
  have:(l.length:Int)+1=0\/x≠0:=by simpa using M
  omega⟩
instance (a:Lf.Rat):Sp (tx a) (rg a/\rl a<=5000000) (λr=>r=true->nm a):=⟨λh=>by
 have:¬ UH a.2.1\/¬ UH a.2.2.1\/a.2.2.1.length=0\/(a.1=true/\a.2.1.length=0)\/zL (nv a.2.1) (nv a.2.2.1)≠1\/nm a:=by
  have:=z56 a h.1
  simp only[xD]; grind
 have e:∀ g,DY (nv (vO g)) (nv (vO (Int.toNat 1)))=0->g=1:=λg h=>by rw[jj,jj]at h; unfold DY at h; grind
 unfold tx
 exact ll⟩
end Go.AM
namespace Go.AM
open T PL Lf
def ixR{α:Type}(d0:α)(b:List α)(d:α->T Bool)(e:Int):Int->T (Int⊕(Unit⊕Int))
 | a=>.ite (decide (a<e)) (oI a b<|T.bind (d (nth b a d0)) λc=>.ite c (.ret (.inr (.inr a))) (.ret (.inl (qo (a+1))))) (.ret (.inr (.inl ())))
theorem xx{α:Type}{l:List α}{i:Int}{d:α}(h0:0<=i)(h:i<l.length):nth l i d∈l:=by
 unfold nth
 rw[zP,List.getElem?_eq_getElem (O)]
 exact List.getElem_mem _
theorem KD{α:Type}{l:List α}{x d:α}(h:x∈l):∃ i:Int,0<=i/\i<l.length/\nth l i d=x:=by
 obtain⟨k,hk,rfl⟩:=List.getElem_of_mem h
 exact⟨k,O,O,by unfold nth; simp[hk]⟩
theorem zgM{α:Type}(d0:α)(l:List α)(c:α->T Bool)(R:l.length<=1000000000000)(hc:∀ x∈l,(c x).wp λ_=>True) :
  (T.loop (ixR d0 l c l.length) 0).wp λr=>match r with | .inl _=>∀ x∈l,(c x).run=some false | .inr i=>0<=i/\i<l.length/\(c (nth l i d0)).run=some true:=by
 refine T.vS (λi:Int=>0<=i/\i<=l.length/\∀ j:Int,0<=j->j<i->(c (nth l j d0)).run=some false) (λi:Int=>(l.length-i).toNat) (xz) λi ⟨h0,h1,M⟩ => ?_
 refine T.zg (λh => ?_) λh => ?_
 ·have h:=uA h
  refine T.qt ⟨h0,h⟩ (T.xl ?_)
  obtain⟨b,I,_⟩:=T.eY.1 (hc _ (xx (d:=d0) h0 h))
  refine T.kY I (T.zg (λe=>T.zi ⟨h0,h,e▸I⟩) λe=>T.zi ?_)
  rw[qv (O) (O)]
  refine⟨⟨O,O,λj hj hji => ?_⟩,O⟩
  by_cases e':j=i
  ·subst e'; exact e▸I
  ·exact M j hj (O)
 ·refine T.zi λx N => ?_
  obtain⟨j,hj,MR,rfl⟩:=KD (d:=d0) N
  have h:=gm h
  exact M j hj (O)
def Ixp{α:Type}(l:List α)(c:α->T Bool)(d0:α)(r:Int):Prop:=(r = -1/\∀ x∈l,(c x).run=some false)\/(0<=r/\r<l.length/\(c (nth l r d0)).run=some true)
theorem zc0{α:Type}{d0:α}{l:List α}{c:α->T Bool}(h:l.length<=1000000000000/\∀ x∈l,(c x).wp λ_=>True) :
  (T.bind (T.loop (ixR d0 l c l.length) 0)<|xM (λ_=>T.ret (-1:Int)) λb=>T.ret b).wp (Ixp l c d0) :=
 T.xl (T.wj (zgM d0 l c h.1 h.2) λr hr=>by
  cases r with
  | inl _=>exact .inl ⟨rfl,hr⟩
  | inr i=>exact .inr hr)
def Hs{α:Type}(l:List α)(P:α->Bool->Prop)(d0:α)(r:Int):Prop:=(r = -1/\∀ x∈l,P x false)\/(0<=r/\r<l.length/\P (nth l r d0) true)
def Dn{α:Type}(l:List α)(P:α->Bool->Prop)(r:Bool):Prop:=(r=false/\∀ x∈l,P x false)\/(r=true/\∃ x∈l,P x true)
theorem ixq{α:Type}{d0:α}{l:List α}{c:α->T Bool}{p:α->Prop}{P:α->Bool->Prop}[s:∀ x,Sp (c x) (p x) (P x)](h:l.length<=1000000000000/\∀ x∈l,p x) :
  (T.bind (T.loop (ixR d0 l c l.length) 0)<|xM (λ_=>T.ret (-1:Int)) λb=>T.ret b).wp (Hs l P d0) :=
 T.wj (zc0 ⟨h.1,λx N=>T.wj ((s x).sp (h.2 x N)) λ_ _=>trivial⟩) λ_ hr=>hr.imp (λ⟨e,k⟩=>⟨e,λx N=>T.Gz ((s x).sp (h.2 x N)) (k x N)⟩) λ⟨h1,M,k⟩=>⟨h1,M,T.Gz ((s _).sp (h.2 _ (xx h1 M))) k⟩
theorem cnq{α:Type}{d0:α}{l:List α}{P:α->Bool->Prop}{t:T Int}(k:t.wp (Hs l P d0)):(T.bind t λa=>T.ret (decide ((0:Int)<=a))).wp (Dn l P) :=
 T.xl (T.wj k λa ha=>ha.elim (λ⟨h,k⟩=>.inl ⟨decide_eq_false (O),k⟩) λ⟨h1,M,k⟩=>.inr ⟨decide_eq_true h1,_,xx h1 M,k⟩)
instance (a:List Switch) (c:Switch->T Bool) (p:Switch->Prop) (P:Switch->Bool->Prop) [∀ x,Sp (c x) (p x) (P x)]:Sp (wb a c) (a.length<=1000000000000/\∀ x∈a,p x) (Hs a P (zb qs)):=⟨ixq⟩
instance (a:List Switch) (c:Switch->T Bool) (p:Switch->Prop) (P:Switch->Bool->Prop) [∀ x,Sp (c x) (p x) (P x)]:Sp (vE a c) (a.length<=1000000000000/\∀ x∈a,p x) (Dn a P):=⟨λh=>cnq (Sp.sp h)⟩
instance (a:List Param) (c:Param->T Bool) (p:Param->Prop) (P:Param->Bool->Prop) [∀ x,Sp (c x) (p x) (P x)]:Sp (vH a c) (a.length<=1000000000000/\∀ x∈a,p x) (Hs a P (zb qg)):=⟨ixq⟩
instance (a:List Param) (c:Param->T Bool) (p:Param->Prop) (P:Param->Bool->Prop) [∀ x,Sp (c x) (p x) (P x)]:Sp (vP a c) (a.length<=1000000000000/\∀ x∈a,p x) (Dn a P):=⟨λh=>cnq (Sp.sp h)⟩
instance (a:List eQ) (c:eQ->T Bool) (p:eQ->Prop) (P:eQ->Bool->Prop) [∀ x,Sp (c x) (p x) (P x)]:Sp (uV a c) (a.length<=1000000000000/\∀ x∈a,p x) (Hs a P (zb xp)):=⟨ixq⟩
instance (a:List eQ) (c:eQ->T Bool) (p:eQ->Prop) (P:eQ->Bool->Prop) [∀ x,Sp (c x) (p x) (P x)]:Sp (yg a c) (a.length<=1000000000000/\∀ x∈a,p x) (Dn a P):=⟨λh=>cnq (Sp.sp h)⟩
instance (a:List eb) (c:eb->T Bool) (p:eb->Prop) (P:eb->Bool->Prop) [∀ x,Sp (c x) (p x) (P x)]:Sp (gZ a c) (a.length<=1000000000000/\∀ x∈a,p x) (Hs a P (zb xm)):=⟨ixq⟩
instance (a:List eb) (c:eb->T Bool) (p:eb->Prop) (P:eb->Bool->Prop) [∀ x,Sp (c x) (p x) (P x)]:Sp (yh a c) (a.length<=1000000000000/\∀ x∈a,p x) (Dn a P):=⟨λh=>cnq (Sp.sp h)⟩
instance (a:Int):Sp (cx a) True (λ_=>True):=⟨λ_=>by unfold cx; exact ll⟩
instance (a:Int):Sp (bW a) True (λ_=>True):=⟨λ_=>by unfold bW ke; exact ll⟩
instance (a:zx) (s:Int):Sp (ZC a (a.length:Int) s) (s=0/\a.length<=1000000000) (λ_=>True):=⟨λh=>by
 unfold ZC ZE
 exact lps (λ(i:Int)=>0<=i/\i<=a.length) (λ(i:Int)=>(a.length-i).toNat)⟩
instance (a:zx):Sp (uQ a) (a.length<=1000000000) (λr=>r=true->a.length<=24):=⟨λh=>by unfold uQ; exact ll⟩
inductive EW(k:Nat):Expr->Prop
 | mk {kd:Int} {n:Lf.Rat} {s:zx} {l:List Expr}:rg n->rl n<=k->s.length<=k->l.length<=k->(∀ x∈l,EW k x)->EW k (.mk kd n s l)
inductive EO:Nat->Expr->Prop
 | num {n:Lf.Rat} {s:zx}:rg n->rl n<=16->EO 1 (.mk 1 n s [])
 | nam {n:Lf.Rat} {s:zx}:s.length<=24->EO 1 (.mk 2 n s [])
 | neg {n:Lf.Rat} {s:zx} {i:Nat} {a:Expr}:EO i a->EO (i+1) (.mk 7 n s [a])
 | bin {k:Int} {n:Lf.Rat} {s:zx} {i j:Nat} {a b:Expr}:3<=k->k<=6->EO i a->EO j b->EO (i+j+1) (.mk k n s [a,b])
instance (a:Lf.Rat):Sp (ZF a) (rg a/\rl a<=2000000) (λr=>r=true->rl a<=16):=⟨λh=>by have:nm a↔norm a=a:=Iff.rfl; unfold ZF; exact ll⟩
instance (a:Lf.Rat):Sp (mX a) (rg a/\rl a<=2000000) (λ_=>True):=⟨λh=>by unfold mX; exact ll⟩
def arity(k:Int):Nat:=if k=1\/k=2 then 0 else if k=7 then 1 else 2
instance (a:Int):Sp (XO a) True (λr=>0<=r->r=arity a/\1<=a/\a<=7):=⟨λ_=>by unfold XO arity; exact ll⟩
instance (e:Expr):Sp (mW e) (EW 2000000 e) (λr=>r=true->e.kids.length=arity e.kind/\1<=e.kind/\e.kind<=7/\(e.kind=1->rl e.num<=16)/\(e.kind=2->e.name.length<=24)):=⟨λh=>by
 cases h with
 | mk h1 M h3 h4 h5 =>
  unfold mW
  simp only[Expr.kids,Expr.kind,Expr.num,Expr.name]
  exact ll⟩
end Go.AM
namespace Go.AM
open T PL Lf
inductive Wt:Nat->List Expr->Prop
 | nil:Wt 0 []
 | snoc {m n:Nat} {l:List Expr} {a:Expr}:Wt m l->EO n a->Wt (m+n) (l++[a])
theorem mn{α:Type}(l:List α)(i:Int)(d:α)(h0:0<=i)(h:i<l.length):l.take (i+1).toNat=l.take i.toNat++[nth l i d]:=by
 have:(i+1).toNat=i.toNat+1:=O
 rw[this,zY (O)]
 unfold nth
 simp[zP,show i.toNat<l.length by omega]
theorem Wt.inv{n:Nat}{l:List Expr}(h:Wt n l):∀ (L:List Expr) (a:Expr),l=L++[a]->∃ i j,n=i+j/\Wt i L/\EO j a:=by
 cases h with
 | nil=>intro L a e; simp at e
 | @snoc m n l a h1 M =>
  intro L b e
  obtain⟨h3,h4⟩:=List.append_inj' e rfl
  subst h3
  cases h4
  exact⟨m,n,rfl,h1,M⟩
theorem Wt.n0{n:Nat}(h:Wt n []):n=0:=by
 generalize e:([]:List Expr)=l at h
 cases h with
 | nil=>rfl
 | snoc h1 M=>simp at e
theorem EO.of{k:Int}{n:Lf.Rat}{s:zx}{l:List Expr}{m:Nat}(h:Wt m l)(R:l.length=arity k)(h1:1<=k)(M:k<=7)(hn:rg n)(h3:k=1->rl n<=16)(h4:k=2->s.length<=24):EO (m+1) (.mk k n s l):=by
 unfold arity at R
 by_cases e1:k=1
 ·subst e1
  obtain rfl:l=[]:=by simpa using R
  rw[h.n0]; exact .num hn (h3 rfl)
 by_cases e2:k=2
 ·subst e2
  obtain rfl:l=[]:=by simpa using R
  rw[h.n0]; exact .nam (h4 rfl)
 by_cases e7:k=7
 ·subst e7
  obtain⟨a,rfl⟩:=List.length_eq_one_iff.1 (by simpa using R)
  obtain⟨i,j,rfl,g1,g2⟩:=h.inv [] a rfl
  rw[g1.n0]
  simpa using EO.neg g2
 ·rw[if_neg (O),if_neg e7]at R
  match l,R with
  | [a,b],_ =>
  obtain⟨i,j,rfl,g1,g2⟩:=h.inv [a] b rfl
  obtain⟨i',j',rfl,g3,g4⟩:=g1.inv [] a rfl
  rw[g3.n0]
  simpa using EO.bin (O) (O) g4 g2
instance (l:List Expr) (g:Expr->Int->Int->T (Bool×Int)) (s:(Int×Unit)×Int×Int):Sp (wy g l (l.length:Int) s)
  (l.length<=2000000/\s.2.1=0/\0<=s.1.1/\s.1.1<32/\0<=s.2.2/\s.2.2<=256/\∀ e∈l,∀ d f:Int,0<=d/\d<=32/\0<=f/\f<=256->(g e d f).wp λr => -1<=r.2/\r.2<f/\(r.1=true->0<=r.2/\EO (f-r.2).toNat e))
  (λr=>match r with | .inl d=>0<=d/\d<=s.2.2/\Wt (s.2.2-d).toNat l | .inr z=>0<=z.1 /\ -1<=z.2/\z.2<=s.2.2):=⟨λh=>by
 unfold wy
 refine T.vS (λ(c,a,d)=>c.1=s.1.1/\0<=a/\a<=l.length/\0<=d/\d<=s.2.2/\Wt (s.2.2-d).toNat (l.take a.toNat)) (λ(_,a,_)=>(l.length-a).toNat) (by
  obtain⟨c,a,d⟩:=s
  dsimp only at *
  have:(d-d).toNat=0:=O
  rw[h.2.1,this]
  exact⟨rfl,O,O,O,O,.nil⟩) λ⟨c,a,d⟩ ⟨h1,M,h3,h4,h5,h6⟩ => ?_
 unfold wT mG
 dsimp only at *
 refine T.zg (λe => ?_) λe => ?_
 ·have e:=uA e
  refine T.qt ⟨M,e⟩ (T.xl (T.xl (T.wj (h.2.2.2.2.2.2 _ (xx M e) _ _ (by rw[qv (O) (O)]; omega)) λr hr => ?_)))
  refine T.zi (T.zg (λe1=>T.zi ⟨M,hr.1,O⟩) λe1=>T.zi ?_)
  obtain⟨g1,g2⟩:=hr.2.2 (by simpa using e1)
  rw[qv (O) (O)]
  dsimp only
  refine⟨⟨h1,O,O,g1,O,?_⟩,O⟩
  rw[mn l a _ M e,show(s.2.2-r.2).toNat=(s.2.2-d).toNat+(d-r.2).toNat by omega]
  exact .snoc h6 g2
 ·have e:=gm e
  refine T.zi ⟨h4,h5,?_⟩
  rwa [zI (O)]at h6⟩
instance (e:Expr) (d l:Int):Sp (ZG e d l) (EW 2000000 e/\0<=d/\d<=32/\0<=l/\l<=256) (λr => -1<=r.2/\r.2<l/\(r.1=true->0<=r.2/\EO (l-r.2).toNat e)):=⟨λh=>by
 unfold ZG
 refine T.sk (x:=(e,d,l)) (σ:=Expr×Int×Int) (ρ:=Bool×Int) (λ(e,d,l)=>EW 2000000 e/\0<=d/\d<=32/\0<=l/\l<=256) (λ(e,_,_)=>zR e) (λ(e,_,l) r => -1<=r.2/\r.2<l/\(r.1=true->0<=r.2/\EO (l-r.2).toNat e)) ?_ ?_ h
 ·intro g g' hg x
  unfold il wS vj wy wT mG
  exact mono
 ·intro⟨e,d,l⟩ ⟨he,h1,M,h3,h4⟩ g hg
  dsimp only at *
  have hn:=he
  cases he with
  | @mk kd n s L g1 g2 g3 g4 g5 =>
  have hk:∀ e∈L,∀ d f:Int,0<=d/\d<=32/\0<=f/\f<=256->(g (e,d,f)).wp λr => -1<=r.2/\r.2<f/\(r.1=true->0<=r.2/\EO (f-r.2).toNat e):=λe he d f h=>hg (e,d,f) ⟨g5 e he,h⟩ (by have:=xG he; simp; omega)
  have hs:∀ (f:Int),Sp (wy (λy0 y1 y2=>g (y0,y1,y2)) L (L.length:Int) ((d,()),0,f)) (d<32/\0<=f/\f<=256) (λr=>match r with | .inl z=>0<=z/\z<=f/\Wt (f-z).toNat L | .inr z=>0<=z.1 /\ -1<=z.2/\z.2<=f):=λf=>⟨λh=>Sp.sp ⟨g4,rfl,h1,h.1,h.2.1,h.2.2,hk⟩⟩
  have ho:∀ z:Int,Wt (l-1-z).toNat L->L.length=arity kd->1<=kd->kd<=7->(kd=1->rl n<=16)->(kd=2->s.length<=24)->0<=z->z<=l-1->EO (l-z).toNat (.mk kd n s L):=λz h a1 a2 a3 a4 a5 a6 a7=>by
   have:=EO.of h a1 a2 a3 g1 a4 a5
   rwa [show(l-1-z).toNat+1=(l-z).toNat by omega]at this
  unfold il wS vj
  simp only[Expr.kids]
  rw[qv (O) (O)]
  have hi:Sp (mW (.mk kd n s L)) True (λr=>r=true->L.length=arity kd/\1<=kd/\kd<=7/\(kd=1->rl n<=16)/\(kd=2->s.length<=24)):=⟨λ_=>Sp.sp hn⟩
  clear hg hk g5 hn h g1 g2 g3 g4
  exact ll⟩
def EK(e:Expr):Prop:=∃ n,n<=256/\EO n e
instance (e:Expr):Sp (ik e) (EW 2000000 e) (λr=>r=true->EK e):=⟨λh=>by unfold ik EK; exact ll⟩
end Go.AM
namespace Go.AM
open T PL Lf
instance (e:Expr):Sp (lU e) True (λr=>1<=r/\r<=4):=⟨λ_=>by unfold lU; exact ll⟩
instance (e:Expr):Sp (ZH e) (EK e) (λr=>r.length<=665600):=⟨λh=>by
 unfold ZH
 refine T.wj (P:=λr=>∀ n,EO n e->r.length<=2600*n) ?_ λr hr=>by obtain⟨n,h1,M⟩:=h; have:=hr n M; omega
 refine T.sk (x:=e) (σ:=Expr) (ρ:=zx) (λe=>∃ n,n<=256/\EO n e) (λe=>zR e) (λe r=>∀ n,EO n e->r.length<=2600*n) ?_ ?_ h
 ·intro g g' hg x
  unfold gL du
  exact mono
 ·intro e ⟨n,hn,he⟩ g hg
  have hs:∀ y,Sp (g y) ((∃ n,n<=256/\EO n y)/\zR y<zR e) (λr=>∀ n,EO n y->r.length<=2600*n):=λy=>⟨λh=>hg y h.1 h.2⟩
  have hp:∀ y f,Sp (du (λy0=>g y0) y f) ((∃ n,n<=256/\EO n y)/\zR y<zR e) (λr=>∀ n,EO n y->r.length<=2600*n+2):=λy f=>⟨λh=>by
   unfold du
   clear hg
   exact ll⟩
  clear hg h hs
  cases he with
  | num h1 M =>
   unfold gL
   simp only[Expr.kids,Expr.kind,Expr.num,Expr.name]
   have:∀ {n m s},EO n (.mk 1 m s [])->1<=n:=λh=>by cases h<;>omega
   refine T.xl (T.uz rfl ?_)
   exact ll
  | nam h1 =>
   unfold gL
   simp only[Expr.kids,Expr.kind,Expr.num,Expr.name]
   have:∀ {n m s},EO n (.mk 2 m s [])->1<=n:=λh=>by cases h<;>omega
   refine T.xl (T.wC rfl (T.uz rfl ?_))
   exact ll
  | @neg m s i a h1 =>
   unfold gL
   simp only[Expr.kids,Expr.kind,Expr.num,Expr.name]
   have M:∀ {n},EO n (.mk 7 m s [a])->∃ j,n=j+1/\EO j a:=λh=>by cases h; exact⟨_,rfl,by assumption⟩
   refine T.xl (T.wC rfl (T.wC rfl (T.uz rfl (T.qt ⟨O,qz⟩ (T.za ⟨⟨i,O,h1⟩,by simp[nth]; omega⟩ λr hr => ?_)))))
   refine T.vk (by have:=hr i h1; simp; omega) (T.zi (T.zi λn hn => ?_))
   obtain⟨j,rfl,hj⟩:=M hn
   have:=hr j hj
   rw[X9]; simp<;>omega
  | @bin k m s i j a b h1 M h3 h4 =>
   unfold gL
   simp only[Expr.kids,Expr.kind,Expr.num,Expr.name]
   have h5:∀ {n},EO n (.mk k m s [a,b])->∃ i j,n=i+j+1/\EO i a/\EO j b:=λh=>by cases h; exact⟨_,_,rfl,by assumption,by assumption⟩
   refine T.xl (T.wC (xz) (T.wC (xz) (T.wC (xz) (T.wj (P:=λz=>∃ c:zx,z=.inl c/\c.length<=3) (by clear hp; exact ll) ?_))))
   rintro z ⟨c,rfl,hc⟩
   refine T.qt ⟨O,by simp<;>omega⟩ (T.za trivial λy hy=>T.za ⟨⟨i,O,h3⟩,by simp[nth]; omega⟩ λr hr=>T.vk (by have:=hr i h3; omega) (T.qt ⟨O,qz⟩ (T.za trivial λy hy=>T.za ⟨⟨j,O,h4⟩,by simp[nth]; omega⟩ λr' Dy=>T.vk (by have:=hr i h3; have:=Dy j h4; rw[X9]; omega) (T.zi λn hn => ?_))))
   obtain⟨i',j',rfl,hi,hj⟩:=h5 hn
   have:=hr i' hi
   have:=Dy j' hj
   rw[X9,X9]; omega⟩
instance (e:Expr):Sp (rf e) (EW 2000000 e) (λr=>r.length<=665600):=⟨λh=>by unfold rf; exact ll⟩
end Go.AM
namespace Go.AM.Lf
open T PL
abbrev KK:Nat:=2000000
def FW(k:Nat)(f:Form):Prop :=
 (f.1.length<=k/\∀ x∈f.1,x.1.length<=KK)/\(f.2.1.length<=k/\∀ x∈f.2.1,x.1.length<=KK/\rg x.2.1/\rl x.2.1<=KK)/\(f.2.2.1.length<=k/\∀ x∈f.2.2.1,x.1.length<=KK/\x.2.1.length<=KK) /\
 (f.2.2.2.1.length<=k/\∀ x∈f.2.2.2.1,x.1.length<=KK)/\(f.2.2.2.2.1.length<=k/\∀ x∈f.2.2.2.2.1,x.1.length<=KK/\x.2.2.1.length<=KK/\EW KK x.2.2.2.1/\EW KK x.2.2.2.2.1) /\
 (f.2.2.2.2.2.1.length<=k/\∀ x∈f.2.2.2.2.2.1,x.1.length<=KK/\EW KK x.2.2.2.1/\EW KK x.2.2.2.2.1)
def FO(f:Form):Prop :=
 (∀ x∈f.1,x.1.length<=24)/\(∀ x∈f.2.1,x.1.length<=24/\rl x.2.1<=16)/\(∀ x∈f.2.2.1,x.1.length<=24/\x.2.1.length<=24) /\
 (∀ x∈f.2.2.2.1,x.1.length<=24/\0<=x.2.1/\x.2.1<f.2.2.1.length/\0<=x.2.2.2.1/\x.2.2.2.1<=9)/\(∀ x∈f.2.2.2.2.1,x.1.length<=24/\0<=x.2.1/\x.2.1<4/\x.2.2.1.length<=24/\EK x.2.2.2.1/\EK x.2.2.2.2.1) /\
 (∀ x∈f.2.2.2.2.2.1,x.1.length<=24/\0<=x.2.2.1/\x.2.2.1<3/\EK x.2.2.2.1/\EK x.2.2.2.2.1)
theorem eP{σ ρ α:Type}(l:List α)(d:α)(ix:σ->Int)(A P:α->Prop)(hd:σ->Prop)(hA:∀ x∈l,A x){r:σ->T (σ⊕ρ)}{Q:ρ->Prop}{s:σ}(hs:ix s=0/\hd s)
  (step:∀ s x,hd s->A x->nth l (ix s) d=x->0<=ix s->ix s<l.length->(r s).wp λz=>match z with | .inl s'=>ix s'=ix s+1/\hd s'/\P x | .inr y=>Q y)
  (done:∀ s,hd s->ix s=l.length->(∀ x∈l,P x)->(r s).wp λz=>match z with | .inl _=>False | .inr y=>Q y):(T.loop r s).wp Q:=by
 refine T.vS (λs=>0<=ix s/\ix s<=l.length/\hd s/\∀ j:Int,0<=j->j<ix s->P (nth l j d)) (λs=>(l.length-ix s).toNat) ⟨O,O,hs.2,λj h0 h1=>O⟩ λs ⟨h0,h1,M,h3⟩ => ?_
 by_cases h:ix s<l.length
 ·refine T.wj (step s _ M (hA _ (xx h0 h)) rfl h0 h) λz hz => ?_
  cases z with
  | inl s' =>
   obtain⟨e,hj,hp⟩:=hz
   refine⟨⟨O,O,hj,λj k0 k1 => ?_⟩,O⟩
   by_cases e':j=ix s
   ·subst e'; exact hp
   ·exact h3 j k0 (O)
  | inr y=>exact hz
 ·refine T.wj (done s M (O) λx N => ?_) λz hz => ?_
  ·obtain⟨j,k0,k1,rfl⟩:=KD (d:=d) N
   exact h3 j k0 (O)
  ·cases z with
   | inl s'=>exact hz.elim
   | inr y=>exact hz
theorem each{σ ρ α:Type}(l:List α)(d:α)(ix:σ->Int)(A P:α->Prop)(hd:σ->Prop)(hA:∀ x∈l,A x){r:σ->T (σ⊕ρ)}{Q:ρ->Prop}{s:σ}(hs:ix s=0/\hd s:=by grind)
  (step:∀ s x,hd s->A x->nth l (ix s) d=x->0<=ix s->ix s<l.length->(r s).wp λz=>match z with | .inl s'=>ix s'=ix s+1/\hd s'/\P x | .inr y=>Q y:=by
 intros
 repeat' (with_reducible first
  | refine T.zi ?_
  | refine T.zg (λ_ => ?_) (λ_ => ?_)
  | refine T.z8 ?_
  | refine T.ze ?_
  | refine T.uo ?_ ?_
  | refine T.qt ?_ ?_
  | refine T.vT ?_ ?_
  | refine T.vk ?_ ?_
  | refine T.zj ?_ ?_
  | refine T.vR (λ_ _ => ?_) (λ_ _ => ?_)
  | refine T.za ?_ (λ_ _ => ?_)
  | refine T.vA ?_ (λ_ _ => ?_)
  | refine T.xl ?_
  | dsimp only)
 all_goals grind [xe,uO,eF,jA,vV,j4,Dn,Hs,Ye,Wp,X9])
  (done:∀ s,hd s->ix s=l.length->(∀ x∈l,P x)->(r s).wp λz=>match z with | .inl _=>False | .inr y=>Q y:=by
 intros
 repeat' (with_reducible first
  | refine T.zi ?_
  | refine T.zg (λ_ => ?_) (λ_ => ?_)
  | refine T.z8 ?_
  | refine T.ze ?_
  | refine T.uo ?_ ?_
  | refine T.qt ?_ ?_
  | refine T.vT ?_ ?_
  | refine T.vk ?_ ?_
  | refine T.zj ?_ ?_
  | refine T.vR (λ_ _ => ?_) (λ_ _ => ?_)
  | refine T.za ?_ (λ_ _ => ?_)
  | refine T.vA ?_ (λ_ _ => ?_)
  | refine T.xl ?_
  | dsimp only)
 all_goals grind):(T.loop r s).wp Q:=eP l d ix A P hd hA hs step done
theorem goq{p:Prop} (h:p:=by
 intros
 repeat' (with_reducible first
  | refine T.zi ?_
  | refine T.zg (λ_ => ?_) (λ_ => ?_)
  | refine T.z8 ?_
  | refine T.ze ?_
  | refine T.uo ?_ ?_
  | refine T.qt ?_ ?_
  | refine T.vT ?_ ?_
  | refine T.vk ?_ ?_
  | refine T.zj ?_ ?_
  | refine T.vR (λ_ _ => ?_) (λ_ _ => ?_)
  | refine T.za ?_ (λ_ _ => ?_)
  | refine T.vA ?_ (λ_ _ => ?_)
  | refine T.xl ?_
  | dsimp only)
 all_goals grind [xe,uO,eF,jA,j4,Dn,Hs,Ye]):p:=h
instance (x:Switch):Sp (yN x) (x.1.length<=KK) (λr=>r=false->x.1.length<=24):=⟨λh=>by unfold yN; exact ll⟩
instance (x:Param):Sp (yO x) (x.1.length<=KK/\rg x.2.1/\rl x.2.1<=KK) (λr=>r=false->x.1.length<=24/\rl x.2.1<=16):=⟨λh=>by have:nm x.2.1↔norm x.2.1=x.2.1:=Iff.rfl; unfold yO; exact ll⟩
instance (x:zx):Sp (iY x) (x.length<=KK) (λr=>r=true->x.length<=24):=⟨λh=>by unfold iY; exact ll⟩
instance (x:eQ):Sp (yP x) (x.1.length<=KK/\x.2.1.length<=KK) (λr=>r=false->x.1.length<=24/\x.2.1.length<=24):=⟨λh=>by unfold yP; exact ll⟩
instance:Sp kX True (λr=>r.length=4/\∀ s∈r,s.length<=8):=⟨λ_=>by unfold kX; exact T.zi ⟨rfl,xn⟩⟩
instance:Sp bE True (λr=>r.length=3/\∀ s∈r,s.length<=2):=⟨λ_=>by unfold bE; exact T.zi ⟨rfl,xn⟩⟩
instance (x:eb):Sp (kW x) (x.1.length<=KK/\x.2.2.1.length<=KK/\EW KK x.2.2.2.1/\EW KK x.2.2.2.2.1) (λr=>r=false->x.1.length<=24/\0<=x.2.1/\x.2.1<4/\x.2.2.1.length<=24/\EK x.2.2.2.1/\EK x.2.2.2.2.1):=⟨λh=>by unfold kW; exact goq⟩
instance (f:Form):Sp (ta f) (FW KK f) (λr=>r=true->(∀ x∈f.1,x.1.length<=24)/\(∀ x∈f.2.1,x.1.length<=24/\rl x.2.1<=16)/\(∀ x∈f.2.2.1,x.1.length<=24/\x.2.1.length<=24)):=⟨λh=>by unfold ta; unfold FW at h; exact goq⟩
instance (a b c:Int):Sp (iX a b c) True (λr=>r=true->0<=a/\a<c):=⟨λ_=>by unfold iX; exact ll⟩
instance (f:Form) (s:Int×Int):Sp (nY f f.2.2.2.1 (f.2.2.2.1.length:Int) s) (s.2=0/\f.2.2.2.1.length<=KK/\∀ x∈f.2.2.2.1,x.1.length<=KK)
  (λr=>match r with | .inl _=>∀ x∈f.2.2.2.1,x.1.length<=24/\0<=x.2.1/\x.2.1<f.2.2.1.length/\0<=x.2.2.2.1/\x.2.2.2.1<=9 | .inr b=>b=false):=⟨λh=>by
 unfold nY nZ
 exact each f.2.2.2.1 (zb qw) (λ(_,i)=>i) (λx=>x.1.length<=KK) (λx=>x.1.length<=24/\0<=x.2.1/\x.2.1<f.2.2.1.length/\0<=x.2.2.2.1/\x.2.2.2.1<=9) (λ(_,i)=>i<=KK) h.2.2⟩
instance (f:Form) (s:Int×Int):Sp (nW f f.2.2.2.2.2.1 (f.2.2.2.2.2.1.length:Int) s) (s.2=0/\f.2.2.2.2.2.1.length<=KK/\∀ x∈f.2.2.2.2.2.1,x.1.length<=KK/\EW KK x.2.2.2.1/\EW KK x.2.2.2.2.1)
  (λr=>match r with | .inl _=>∀ x∈f.2.2.2.2.2.1,x.1.length<=24/\0<=x.2.2.1/\x.2.2.1<3/\EK x.2.2.2.1/\EK x.2.2.2.2.1 | .inr b=>b=false):=⟨λh=>by
 unfold nW nX
 exact each f.2.2.2.2.2.1 (zb xj) (λ(_,i)=>i) (λx=>x.1.length<=KK/\EW KK x.2.2.2.1/\EW KK x.2.2.2.2.1) (λx=>x.1.length<=24/\0<=x.2.2.1/\x.2.2.1<3/\EK x.2.2.2.1/\EK x.2.2.2.2.1) (λ(_,i)=>i<=KK) h.2.2⟩
open T PL
instance (f:Form):Sp (oS f) (FW 8200 f) (λr=>r=true->∀ x∈f.2.2.2.1,x.1.length<=24/\0<=x.2.1/\x.2.1<f.2.2.1.length/\0<=x.2.2.2.1/\x.2.2.2.1<=9):=⟨λh=>by unfold FW at h; unfold oS; exact goq⟩
instance (f:Form):Sp (oR f) (FW 8200 f) (λr=>r=true->(∀ x∈f.2.2.2.2.1,x.1.length<=24/\0<=x.2.1/\x.2.1<4/\x.2.2.1.length<=24/\EK x.2.2.2.1/\EK x.2.2.2.2.1) /\
 (∀ x∈f.2.2.2.2.2.1,x.1.length<=24/\0<=x.2.2.1/\x.2.2.1<3/\EK x.2.2.2.1/\EK x.2.2.2.2.1)):=⟨λh=>by unfold FW at h; unfold oR; exact goq⟩
def bt(l:List Int):Prop:=∀ n∈l,(0:Int)<=n/\n<256
theorem C2{l:List Int}(h:bt l)(s:zx):bt (l++bytesOf s):=λn hn=>by
 rcases List.mem_append.1 hn with k | k
 ·exact h n k
 ·unfold bytesOf at k
  obtain⟨b,_,rfl⟩:=List.mem_map.1 k
  have:=b.toNat_lt
  omega
theorem Z1(s:zx):(bytesOf s).length=s.length:=by unfold bytesOf; simp
instance (b:zx) (c:List Int):Sp (xo b () c) (c.length+b.length<=140737488355328) (λr=>r.2.2=c++bytesOf b):=⟨λh=>by
 have:=Z1 b
 unfold xo tn vV
 exact goq⟩
def onS(b:Bool):zx:=bif b then[32,111,110,10]else[32,111,102,102,10]
theorem goa{p:Prop} (h:p:=by
 intros
 repeat' (with_reducible first
  | refine T.zi ?_
  | refine T.zg (λ_ => ?_) (λ_ => ?_)
  | refine T.z8 ?_
  | refine T.ze ?_
  | refine T.uo ?_ ?_
  | refine T.qt ?_ ?_
  | refine T.vT ?_ ?_
  | refine T.vk ?_ ?_
  | refine T.zj ?_ ?_
  | refine T.vR (λ_ _ => ?_) (λ_ _ => ?_)
  | refine T.za ?_ (λ_ _ => ?_)
  | refine T.vA ?_ (λ_ _ => ?_)
  | refine T.xl ?_
  | dsimp only)
 all_goals try simp only[X9,List.length_cons,List.length_nil,Nat.reduceAdd,Nat.zero_add]
 all_goals grind [xe,uO,eF,jA,vV,j4,X9,C2,Z1,Wp,Ye]):p:=h
theorem HH{σ ρ α:Type}(l:List α)(d:α)(ix:σ->Int)(A P:α->Prop)(hd:σ->Prop)(hA:∀ x∈l,A x){r:σ->T (σ⊕ρ)}{Q:ρ->Prop}{s:σ}(hs:ix s=0/\hd s:=by grind)
  (step:∀ s x,hd s->A x->nth l (ix s) d=x->0<=ix s->ix s<l.length->(r s).wp λz=>match z with | .inl s'=>ix s'=ix s+1/\hd s'/\P x | .inr y=>Q y:=by
 intros
 repeat' (with_reducible first
  | refine T.zi ?_
  | refine T.zg (λ_ => ?_) (λ_ => ?_)
  | refine T.z8 ?_
  | refine T.ze ?_
  | refine T.uo ?_ ?_
  | refine T.qt ?_ ?_
  | refine T.vT ?_ ?_
  | refine T.vk ?_ ?_
  | refine T.zj ?_ ?_
  | refine T.vR (λ_ _ => ?_) (λ_ _ => ?_)
  | refine T.za ?_ (λ_ _ => ?_)
  | refine T.vA ?_ (λ_ _ => ?_)
  | refine T.xl ?_
  | dsimp only)
 all_goals try simp only[X9,List.length_cons,List.length_nil,Nat.reduceAdd,Nat.zero_add]
 all_goals grind [xe,uO,eF,jA,vV,j4,X9,C2,Z1,Wp,Ye])
  (done:∀ s,hd s->ix s=l.length->(∀ x∈l,P x)->(r s).wp λz=>match z with | .inl _=>False | .inr y=>Q y:=by
 intros
 repeat' (with_reducible first
  | refine T.zi ?_
  | refine T.zg (λ_ => ?_) (λ_ => ?_)
  | refine T.z8 ?_
  | refine T.ze ?_
  | refine T.uo ?_ ?_
  | refine T.qt ?_ ?_
  | refine T.vT ?_ ?_
  | refine T.vk ?_ ?_
  | refine T.zj ?_ ?_
  | refine T.vR (λ_ _ => ?_) (λ_ _ => ?_)
  | refine T.za ?_ (λ_ _ => ?_)
  | refine T.vA ?_ (λ_ _ => ?_)
  | refine T.xl ?_
  | dsimp only)
 all_goals try simp only[X9,List.length_cons,List.length_nil,Nat.reduceAdd,Nat.zero_add]
 all_goals grind [xe,uO,eF,jA,vV,j4,X9,C2,Z1,Wp,Ye]):(T.loop r s).wp Q:=eP l d ix A P hd hA hs step done
instance (a:zx):Sp (sa a) (a.length<=1000000) (λr=>r.length<=a.length+6):=⟨λh=>by unfold sa; exact goa⟩
theorem z1c(n:Int)(h0:0<=n)(h:n<1000000000000000000):(Yu n).length<=18:=by
 have key:∀ (k u:Nat),u<10 ^ (k+1)->(E4 u).length<=k+1:=by
  intro k
  induction k with
  | zero=>intro u hu; rw[E4,dif_pos (O)]; simp
  | succ k ih =>
   intro u hu
   rw[E4]
   split
   ·simp
   ·have:=ih (u / 10) (by rw[zF]at hu; omega)
    simp; omega
 unfold Yu
 rw[if_neg (O)]
 exact key 17 _ (O)
instance (a:Int):Sp (strconv_Itoa a) (0<=a/\a<1000000000000000000) (λr=>r.length<=18):=⟨λh=>by unfold strconv_Itoa; exact T.zj (O) (T.zi (z1c _ h.1 h.2))⟩
instance (x:Field):Sp (sZ x) (x.1.length<=24/\0<=x.2.2.2.1/\x.2.2.2.1<=9) (λr=>r.length<=80):=⟨λh=>by
 obtain⟨n,p,m,s,u⟩:=x
 unfold sZ
 cases m<;>dsimp only[cond_true,cond_false]<;>exact goa⟩
instance (a b:Expr) (s:zx):Sp (ny a s b) (EW KK a/\EW KK b/\s.length<=2) (λr=>r.length<=1331300):=⟨λh=>by unfold ny; exact goa⟩
instance (i:Int) (f:Form) (s:Int×Unit×List Int):Sp (o0 i f f.2.2.2.1 (f.2.2.2.1.length:Int) s) (s.1=0/\f.2.2.2.1.length<=8200/\(∀ x∈f.2.2.2.1,x.1.length<=24/\0<=x.2.1/\x.2.1<f.2.2.1.length/\0<=x.2.2.2.1/\x.2.2.2.1<=9)/\bt s.2.2/\s.2.2.length<=100000000000000)
  (λr=>bt r.2/\r.2.length<=s.2.2.length+80*8200):=⟨λh=>by
 unfold o0 o6
 exact HH f.2.2.2.1 (zb qw) (λ(i,_,_)=>i) _ (λ_=>True) (λ(i,_,c)=>0<=i/\i<=8200/\bt c/\(c.length:Int)<=s.2.2.length+80*i) h.2.2.1⟩
instance (i:Int) (l:List Check) (s:Int×Unit×List Int):Sp (o5 i l (l.length:Int) s) (s.1=0/\l.length<=8200/\(∀ x∈l,x.1.length<=24/\0<=x.2.2.1/\x.2.2.1<3/\EW KK x.2.2.2.1/\EW KK x.2.2.2.2.1)/\bt s.2.2/\s.2.2.length<=100000000000000)
  (λr=>bt r.2/\r.2.length<=s.2.2.length+1331400*8200):=⟨λh=>by
 have hn:∀ (l:List zx) (i:Int),(l.length=3/\∀ s∈l,s.length<=2)->0<=i->i<3->(nth l i (zb .str)).length<=2:=λl i h h0 h1=>h.2 _ (xx h0 (O))
 unfold o5 o7
 exact HH l (zb xj) (λ(i,_,_)=>i) _ (λ_=>True) (λ(i,_,c)=>0<=i/\i<=8200/\bt c/\(c.length:Int)<=s.2.2.length+1331400*i) h.2.2.1⟩
def FV(f:Form):Prop:=FW 8200 f/\FO f
instance (f:Form) (i:Int) (c:List Int):Sp (oT f i () c) (FV f/\0<=i/\i<f.2.2.1.length/\bt c/\c.length<=91000000000000) (λr=>bt r.2/\r.2.length<=c.length+10920000000):=⟨λh=>by
 have h1:=h.1.2.2.2.1 _ (xx (d:=zb xp) h.2.1 h.2.2.1)
 obtain⟨⟨hw,ho⟩,M⟩:=h
 have h3:=hw.2.2.2.1.1
 have h4:=ho.2.2.2.1
 have h5:=hw.2.2.2.2.2.1
 have h6:=λ(x:Check) N=>(⟨(ho.2.2.2.2.2 x N).1,(ho.2.2.2.2.2 x N).2.1,(ho.2.2.2.2.2 x N).2.2.1,(hw.2.2.2.2.2.2 x N).2⟩:x.1.length<=24/\0<=x.2.2.1/\x.2.2.1<3/\EW KK x.2.2.2.1/\EW KK x.2.2.2.2.1)
 clear hw ho
 unfold oT
 exact goa⟩
instance (f:Form) (s:Int×Unit×List Int):Sp (rV f f.1 (f.1.length:Int) s) (s.1=0/\f.1.length<=8200/\(∀ x∈f.1,x.1.length<=24)/\bt s.2.2/\s.2.2.length<=100) (λr=>bt r.2/\r.2.length<=1000000):=⟨λh=>by
 unfold rV rZ
 simp only[show ∀ b:Bool,(bif b then([32,111,110,10]:zx)else[32,111,102,102,10])=onS b from λ_=>rfl]
 have:∀ b,(onS b).length<=5:=xn
 have:([115,119,105,116,99,104,32]:zx).length=7:=rfl
 exact HH f.1 (zb qs) (λ(i,_,_)=>i) _ (λ_=>True) (λ(i,_,c)=>0<=i/\i<=8200/\bt c/\(c.length:Int)<=s.2.2.length+40*i) h.2.2.1⟩
instance (f:Form) (s:Int×Unit×List Int):Sp (rW f f.2.1 (f.2.1.length:Int) s) (s.1=0/\f.2.1.length<=8200/\(∀ x∈f.2.1,x.1.length<=24/\rg x.2.1/\rl x.2.1<=16)/\bt s.2.2/\s.2.2.length<=1000000) (λr=>bt r.2/\r.2.length<=10000000):=⟨λh=>by
 unfold rW s6
 exact HH f.2.1 (zb qg) (λ(i,_,_)=>i) _ (λ_=>True) (λ(i,_,c)=>0<=i/\i<=8200/\bt c/\(c.length:Int)<=s.2.2.length+800*i) h.2.2.1⟩
instance (f:Form) (s:Int×Unit×List Int):Sp (rX f (f.2.2.1.length:Int) s) (s.1=0/\FV f/\bt s.2.2/\s.2.2.length<=10000000) (λr=>bt r.2/\r.2.length<=90000000000000):=⟨λh=>by
 have hw:=h.2.1.1.2.2.1.1
 unfold rX s7
 exact HH f.2.2.1 (zb xp) (λ(i,_,_)=>i) (λ_=>True) (λ_=>True) (λ(i,_,c)=>0<=i/\i<=8200/\bt c/\(c.length:Int)<=s.2.2.length+10920000000*i) (λ_ _=>trivial)⟩
instance (l:List eb) (s:Int×Unit×List Int):Sp (rY l (l.length:Int) s) (s.1=0/\l.length<=8200/\(∀ x∈l,x.1.length<=24/\0<=x.2.1/\x.2.1<4/\x.2.2.1.length<=24/\EW KK x.2.2.2.1/\EW KK x.2.2.2.2.1)/\bt s.2.2/\s.2.2.length<=90000000000000) (λr=>bt r.2/\r.2.length<=100000000000000):=⟨λh=>by
 have hn:∀ (l:List zx) (i:Int),(l.length=4/\∀ s∈l,s.length<=8)->0<=i->i<4->(nth l i (zb .str)).length<=8:=λl i h h0 h1=>h.2 _ (xx h0 (O))
 unfold rY s9
 exact HH l (zb xm) (λ(i,_,_)=>i) _ (λ_=>True) (λ(i,_,c)=>0<=i/\i<=8200/\bt c/\(c.length:Int)<=s.2.2.length+1400000*i) h.2.2.1⟩
instance (f:Form):Sp (nw f) (FV f) (λ_=>True):=⟨λh=>by
 have hv:=h
 have e:bt []:=λ_ h=>nomatch h
 obtain⟨⟨⟨a1,_⟩,⟨a2,b2⟩,_,_,⟨a5,b5⟩,_⟩,c1,c2,_,_,c5,_⟩:=h
 have h1:=λ(x:Param) N=>(⟨(c2 x N).1,(b2 x N).2.1,(c2 x N).2⟩:x.1.length<=24/\rg x.2.1/\rl x.2.1<=16)
 have M:=λ(x:eb) N=>(⟨(c5 x N).1,(c5 x N).2.1,(c5 x N).2.2.1,(c5 x N).2.2.2.1,(b5 x N).2.2⟩:x.1.length<=24/\0<=x.2.1/\x.2.1<4/\x.2.2.1.length<=24/\EW KK x.2.2.2.1/\EW KK x.2.2.2.2.1)
 have h3:∀ l,bt l->∀ n∈l,(0:Int)<=n/\n<256:=λ_ h=>h
 clear b2 b5 c2 c5
 unfold nw pD z3g oZ
 exact goa⟩
instance (f:Form):Sp (Za f) (FW 8200 f) (λr=>r=true->FV f):=⟨λh=>by
 have hk:FW KK f:=by obtain⟨⟨a1,b1⟩,⟨a2,b2⟩,⟨a3,b3⟩,⟨a4,b4⟩,⟨a5,b5⟩,a6,b6⟩:=h; unfold FW KK; exact⟨⟨O,b1⟩,⟨O,b2⟩,⟨O,b3⟩,⟨O,b4⟩,⟨O,b5⟩,O,b6⟩
 unfold Za
 refine T.za hk λb I=>T.zg (λe=>T.za h λc hc=>T.zg (λe1=>T.za h λd J=>T.zg (λe2 => ?_) λ_=>T.zi nofun) λ_=>T.zi nofun) λ_=>T.zi nofun
 have hv:FV f:=⟨h,(I e).1,(I e).2.1,(I e).2.2,hc e1,J e2⟩
 exact T.za hv λ_ _=>T.zi λ_=>hv⟩
open T PL
def ss(l:List zx):Prop:=∀ s∈l,s.length<=KK
theorem z3d{a:List zx}(h:ss a){s:zx}(hs:s.length<=KK):ss (a++[s]):=λx N=>by
 rcases List.mem_append.1 N with k | k
 ·exact h x k
 ·rw[qL.1 k]; exact hs
theorem LQ:ss []:=λ_ h=>nomatch h
theorem Er{p:Prop} (h:p:=by
 intros
 repeat' (with_reducible first
  | refine T.zi ?_
  | refine T.zg (λ_ => ?_) (λ_ => ?_)
  | refine T.z8 ?_
  | refine T.ze ?_
  | refine T.uo ?_ ?_
  | refine T.qt ?_ ?_
  | refine T.vT ?_ ?_
  | refine T.vk ?_ ?_
  | refine T.zj ?_ ?_
  | refine T.vR (λ_ _ => ?_) (λ_ _ => ?_)
  | refine T.za ?_ (λ_ _ => ?_)
  | refine T.vA ?_ (λ_ _ => ?_)
  | refine T.xl ?_
  | dsimp only)
 all_goals grind [xe,uO,eF,jA,vV,j4,Wp,Ye,z3d,LQ,List.length_append,yI,Dn,Hs]):p:=h
theorem pX{σ ρ α:Type}(l:List α)(d:α)(ix:σ->Int)(A P:α->Prop)(hd:σ->Prop)(hA:∀ x∈l,A x){r:σ->T (σ⊕ρ)}{Q:ρ->Prop}{s:σ}(hs:ix s=0/\hd s:=by grind [LQ])
  (step:∀ s x,hd s->A x->nth l (ix s) d=x->0<=ix s->ix s<l.length->(r s).wp λz=>match z with | .inl s'=>ix s'=ix s+1/\hd s'/\P x | .inr y=>Q y:=by
 intros
 repeat' (with_reducible first
  | refine T.zi ?_
  | refine T.zg (λ_ => ?_) (λ_ => ?_)
  | refine T.z8 ?_
  | refine T.ze ?_
  | refine T.uo ?_ ?_
  | refine T.qt ?_ ?_
  | refine T.vT ?_ ?_
  | refine T.vk ?_ ?_
  | refine T.zj ?_ ?_
  | refine T.vR (λ_ _ => ?_) (λ_ _ => ?_)
  | refine T.za ?_ (λ_ _ => ?_)
  | refine T.vA ?_ (λ_ _ => ?_)
  | refine T.xl ?_
  | dsimp only)
 all_goals grind [xe,uO,eF,jA,vV,j4,Wp,Ye,z3d,LQ,List.length_append,yI,Dn,Hs])
  (done:∀ s,hd s->ix s=l.length->(∀ x∈l,P x)->(r s).wp λz=>match z with | .inl _=>False | .inr y=>Q y:=by
 intros
 repeat' (with_reducible first
  | refine T.zi ?_
  | refine T.zg (λ_ => ?_) (λ_ => ?_)
  | refine T.z8 ?_
  | refine T.ze ?_
  | refine T.uo ?_ ?_
  | refine T.qt ?_ ?_
  | refine T.vT ?_ ?_
  | refine T.vk ?_ ?_
  | refine T.zj ?_ ?_
  | refine T.vR (λ_ _ => ?_) (λ_ _ => ?_)
  | refine T.za ?_ (λ_ _ => ?_)
  | refine T.vA ?_ (λ_ _ => ?_)
  | refine T.xl ?_
  | dsimp only)
 all_goals grind):(T.loop r s).wp Q:=eP l d ix A P hd hA hs step done
instance (f:Form) (s:Int×List zx):Sp (pI f f.1 (f.1.length:Int) s) (s.1=0/\f.1.length<=8200/\(∀ x∈f.1,x.1.length<=KK)/\ss s.2/\s.2.length<=100000) (λr=>ss r/\r.length<=s.2.length+f.1.length):=⟨λh=>by
 unfold pI pO
 exact pX f.1 (zb qs) (λ(i,_)=>i) _ (λ_=>True) (λ(i,c)=>0<=i/\i<=f.1.length/\ss c/\(c.length:Int)<=s.2.length+i) h.2.2.1⟩
instance (f:Form) (s:Int×List zx):Sp (pJ f f.2.1 (f.2.1.length:Int) s) (s.1=0/\f.2.1.length<=8200/\(∀ x∈f.2.1,x.1.length<=KK)/\ss s.2/\s.2.length<=100000) (λr=>ss r/\r.length<=s.2.length+f.2.1.length):=⟨λh=>by
 unfold pJ pP
 exact pX f.2.1 (zb qg) (λ(i,_)=>i) _ (λ_=>True) (λ(i,c)=>0<=i/\i<=f.2.1.length/\ss c/\(c.length:Int)<=s.2.length+i) h.2.2.1⟩
instance (f:Form) (s:Int×List zx):Sp (pK f f.2.2.1 (f.2.2.1.length:Int) s) (s.1=0/\f.2.2.1.length<=8200/\(∀ x∈f.2.2.1,x.1.length<=KK)/\ss s.2/\s.2.length<=100000) (λr=>ss r/\r.length<=s.2.length+f.2.2.1.length):=⟨λh=>by
 unfold pK pQ
 exact pX f.2.2.1 (zb xp) (λ(i,_)=>i) _ (λ_=>True) (λ(i,c)=>0<=i/\i<=f.2.2.1.length/\ss c/\(c.length:Int)<=s.2.length+i) h.2.2.1⟩
instance (f:Form) (s:Int×List zx):Sp (pL f f.2.2.2.1 (f.2.2.2.1.length:Int) s) (s.1=0/\f.2.2.2.1.length<=8200/\(∀ x∈f.2.2.2.1,x.1.length<=KK)/\ss s.2/\s.2.length<=100000) (λr=>ss r/\r.length<=s.2.length+f.2.2.2.1.length):=⟨λh=>by
 unfold pL pR
 exact pX f.2.2.2.1 (zb qw) (λ(i,_)=>i) _ (λ_=>True) (λ(i,c)=>0<=i/\i<=f.2.2.2.1.length/\ss c/\(c.length:Int)<=s.2.length+i) h.2.2.1⟩
instance (f:Form) (s:Int×List zx):Sp (pM f f.2.2.2.2.1 (f.2.2.2.2.1.length:Int) s) (s.1=0/\f.2.2.2.2.1.length<=8200/\(∀ x∈f.2.2.2.2.1,x.1.length<=KK)/\ss s.2/\s.2.length<=100000) (λr=>ss r/\r.length<=s.2.length+f.2.2.2.2.1.length):=⟨λh=>by
 unfold pM pS
 exact pX f.2.2.2.2.1 (zb xm) (λ(i,_)=>i) _ (λ_=>True) (λ(i,c)=>0<=i/\i<=f.2.2.2.2.1.length/\ss c/\(c.length:Int)<=s.2.length+i) h.2.2.1⟩
instance (l:List Check) (s:Int×List zx):Sp (pN l (l.length:Int) s) (s.1=0/\l.length<=8200/\(∀ x∈l,x.1.length<=KK)/\ss s.2/\s.2.length<=100000) (λr=>ss r/\r.length<=s.2.length+l.length):=⟨λh=>by
 unfold pN pT
 exact pX l (zb xj) (λ(i,_)=>i) _ (λ_=>True) (λ(i,c)=>0<=i/\i<=l.length/\ss c/\(c.length:Int)<=s.2.length+i) h.2.2.1⟩
instance (f:Form) (s:Int×List zx):Sp (eS f f.2.2.1 (f.2.2.1.length:Int) s) (s.1=0/\f.2.2.1.length<=8200/\(∀ x∈f.2.2.1,x.2.1.length<=KK)/\ss s.2/\s.2.length<=100000) (λr=>ss r/\r.length<=s.2.length+f.2.2.1.length):=⟨λh=>by
 unfold eS eU
 exact pX f.2.2.1 (zb xp) (λ(i,_)=>i) _ (λ_=>True) (λ(i,c)=>0<=i/\i<=f.2.2.1.length/\ss c/\(c.length:Int)<=s.2.length+i) h.2.2.1⟩
instance (f:Form) (s:Int×List zx):Sp (eT f f.2.2.2.2.1 (f.2.2.2.2.1.length:Int) s) (s.1=0/\f.2.2.2.2.1.length<=8200/\(∀ x∈f.2.2.2.2.1,x.2.2.1.length<=KK)/\ss s.2/\s.2.length<=100000) (λr=>ss r/\r.length<=s.2.length+f.2.2.2.2.1.length):=⟨λh=>by
 unfold eT eV
 exact pX f.2.2.2.2.1 (zb xm) (λ(i,_)=>i) _ (λ_=>True) (λ(i,c)=>0<=i/\i<=f.2.2.2.2.1.length/\ss c/\(c.length:Int)<=s.2.length+i) h.2.2.1⟩
instance (f:Form) (s:Int×List zx):Sp (nH f f.2.2.2.1 (f.2.2.2.1.length:Int) s) (s.1=0/\f.2.2.2.1.length<=8200/\(∀ x∈f.2.2.2.1,x.1.length<=KK)/\ss s.2/\s.2.length<=100000) (λr=>ss r/\r.length<=s.2.length+f.2.2.2.1.length):=⟨λh=>by
 unfold nH nJ
 exact pX f.2.2.2.1 (zb qw) (λ(i,_)=>i) _ (λ_=>True) (λ(i,c)=>0<=i/\i<=f.2.2.2.1.length/\ss c/\(c.length:Int)<=s.2.length+i) h.2.2.1⟩
instance (f:Form):Sp (sy f) (FV f) (λr=>ss r/\r.length<=50000):=⟨λh=>by
 obtain⟨⟨⟨a1,b1⟩,⟨a2,b2⟩,⟨a3,b3⟩,⟨a4,b4⟩,⟨a5,b5⟩,a6,b6⟩,_⟩:=h
 have b2:=λx N=>(b2 x N).1
 have b3:=λx N=>(b3 x N).1
 have b5:=λx N=>(b5 x N).1
 have b6:=λx N=>(b6 x N).1
 unfold sy oZ
 exact Er⟩
instance (l:List zx):Sp (sA l) (ss l/\l.length<=50000) (λ_=>True):=⟨λh=>by
 unfold sA
 exact T.zj ⟨O,λs hs=>zQ (h.1 s hs) (by unfold KK; omega)⟩ (T.zi trivial)⟩
instance (a:Switch) (s:zx):Sp (vU a s) True (λ_=>True):=⟨λ_=>by unfold vU; exact Er⟩
instance (s:zx) (f:Form):Sp (jQ s f) (f.1.length<=8200) (λ_=>True):=⟨λh=>by unfold jQ; exact Er⟩
instance (a:List zx) (c:zx->T Bool) (p:zx->Prop) (P:zx->Bool->Prop) [∀ x,Sp (c x) (p x) (P x)]:Sp (wU a c) (a.length<=1000000000000/\∀ x∈a,p x) (Hs a P (zb .str)):=⟨ixq⟩
instance (a:List zx) (c:zx->T Bool) (p:zx->Prop) (P:zx->Bool->Prop) [∀ x,Sp (c x) (p x) (P x)]:Sp (kC a c) (a.length<=1000000000000/\∀ x∈a,p x) (Dn a P):=⟨λh=>cnq (Sp.sp h)⟩
instance (f:Form):Sp (eH f) (FV f) (λ_=>True):=⟨λh=>by
 obtain⟨⟨⟨a1,b1⟩,⟨a2,b2⟩,⟨a3,b3⟩,⟨a4,b4⟩,⟨a5,b5⟩,a6,b6⟩,_⟩:=h
 have b3:=λx N=>(b3 x N).2
 have b5:=λx N=>(b5 x N).2.1
 unfold eH oZ
 exact Er⟩
instance (a:List zx) (c:zx) (s:Int):Sp (gq a c (a.length:Int) s) (s=0/\a.length<=1000000) (λr=>match r with | .inl _=>True | .inr i=>0<=i/\i<a.length):=⟨λh=>by
 unfold gq gu
 exact pX a (zb .str) (λ(i:Int)=>i) (λ_=>True) (λ_=>True) (λ(i:Int)=>i<=1000000) (λ_ _=>trivial)⟩
instance (a:List zx) (c:zx):Sp (wE a c) (a.length<=1000000) (λr => -1<=r/\r<a.length):=⟨λh=>by unfold wE; exact Er⟩
instance (a:List zx) (c:zx):Sp (wL a c) (a.length<=1000000) (λ_=>True):=⟨λh=>by unfold wL; exact Er⟩
open T PL
theorem _root_.Go.AM.EO.uniq{m:Nat}{e:Expr}(h:EO m e):∀ {n:Nat},EO n e->m=n:=by
 induction h with
 | num=>intro n h; cases h; rfl
 | nam=>intro n h; cases h; rfl
 | neg _ ih =>
  intro n h
  cases h with
  | neg h=>rw[ih h]
 | bin a b _ _ ih jh =>
  intro n h
  cases h with
  | bin _ _ h k=>rw[ih h,jh k]
theorem _root_.Go.AM.EO.ks{n:Nat}{e:Expr}(h:EO n e):(∀ x∈e.kids,∃ k,EO k x)/\(∀ m,Wt m e.kids->m+1=n)/\e.kids.length<=2/\(e.kind=2->e.name.length<=24):=by
 cases h with
 | num=>exact⟨nofun,λm h=>by rw[Wt.n0 h],by simp[Expr.kids],λh=>by simp[Expr.kind]at h⟩
 | nam h=>exact⟨nofun,λm h=>by rw[Wt.n0 h],by simp[Expr.kids],λ_=>h⟩
 | neg h =>
  refine⟨λx N=>⟨_,qL.1 N▸h⟩,λm hm => ?_,by simp[Expr.kids],λh=>by simp[Expr.kind]at h⟩
  obtain⟨i,j,rfl,h1,M⟩:=hm.inv [] _ rfl
  rw[h1.n0,M.uniq h]; omega
 | bin h1 M h3 h4 =>
  refine⟨λx N => ?_,λm hm => ?_,by simp[Expr.kids],λh=>by simp[Expr.kind]at h; omega⟩
  ·rcases xL.1 N with rfl | N
   ·exact⟨_,h3⟩
   ·exact⟨_,qL.1 N▸h4⟩
  ·obtain⟨i,j,rfl,g1,g2⟩:=hm.inv [_] _ rfl
   obtain⟨i',j',rfl,g3,g4⟩:=g1.inv [] _ rfl
   rw[g3.n0,g2.uniq h4,g4.uniq h3]; omega
theorem _root_.Go.AM.Wt.ex{l:List Expr}(h:∀ x∈l,∃ k,EO k x):∃ m,Wt m l:=by
 have:∀ n,n<=l.length->∃ m,Wt m (l.take n):=by
  intro n
  induction n with
  | zero=>exact λ_=>⟨0,by simpa using Wt.nil⟩
  | succ n ih =>
   intro hn
   obtain⟨m,hm⟩:=ih (O)
   obtain⟨k,hk⟩:=h l[n] (List.getElem_mem (O))
   rw[zY (O)]
   exact⟨_,.snoc hm hk⟩
 simpa using this l.length (zJ _)
theorem _root_.Go.AM.Wt.uniq{m:Nat}{l:List Expr}(h:Wt m l):∀ {n:Nat},Wt n l->m=n:=by
 induction h with
 | nil=>intro n h; exact h.n0.symm
 | snoc _ h1 ih =>
  intro n h
  obtain⟨i,j,rfl,g1,g2⟩:=h.inv _ _ rfl
  rw[ih g1,h1.uniq g2]
theorem _root_.Go.AM.Wt.le{m:Nat}{l:List Expr}(h:Wt m l):∀ i,∃ k,Wt k (l.take i)/\k<=m:=by
 induction h with
 | nil=>intro i; exact⟨0,by simpa using Wt.nil,zJ _⟩
 | @snoc m n l a h h1 ih =>
  intro i
  by_cases e:i<=l.length
  ·obtain⟨k,hk,hle⟩:=ih i
   rw[List.take_append_of_le_length e]
   exact⟨k,hk,O⟩
  ·rw[zI (by simp; omega)]
   exact⟨_,.snoc h h1,zJ _⟩
theorem z99{σ ρ:Type}(l:List Expr)(ix:σ->Int)(hd:Nat->σ->Prop){h2:Nat}(hM:Wt h2 l)(hA:∀ x∈l,∃ k,EO k x){r:σ->T (σ⊕ρ)}{Q:ρ->Prop}{s:σ}(hs:ix s=0/\hd 0 s)
  (step:∀ m k s x,hd m s->EO k x->x∈l->m+k<=h2->nth l (ix s) (zb .expr)=x->0<=ix s->ix s<l.length->(r s).wp λz=>match z with | .inl s'=>ix s'=ix s+1/\hd (m+k) s' | .inr y=>Q y)
  (done:∀ s,hd h2 s->ix s=l.length->(r s).wp λz=>match z with | .inl _=>False | .inr y=>Q y):(T.loop r s).wp Q:=by
 refine eP l (zb .expr) ix (λx=>x∈l) (λ_=>True) (λs=>0<=ix s/\∃ m,hd m s/\Wt m (l.take (ix s).toNat)) (λ_ h=>h) ⟨hs.1,O,0,hs.2,by rw[hs.1]; exact .nil⟩ (λs x ⟨h0,m,h1,M⟩ N he _ R => ?_) λs ⟨h0,m,h1,M⟩ he _ => ?_
 ·obtain⟨k,hk⟩:=hA x N
  have h3:=Wt.snoc M hk
  rw[<- he,<- mn l _ (zb .expr) h0 R]at h3
  obtain⟨k',Kz,hle⟩:=hM.le (ix s+1).toNat
  have:=h3.uniq Kz
  refine T.wj (step m k s x h1 hk N (O) he h0 R) λz hz => ?_
  cases z with
  | inl s'=>exact⟨hz.1,⟨O,_,hz.2,by rw[hz.1]; exact h3⟩,trivial⟩
  | inr y=>exact hz
 ·rw[he,B,List.take_length]at M
  exact done s (M.uniq hM▸h1) he
theorem N2{e x:Expr}(h:x∈e.kids):zR x<zR e:=by
 cases e
 have:=xG h
 simp only[Expr.kids]at this
 simp; omega
instance (e:Expr) (a:List zx):Sp (oz e a) (EK e/\ss a/\a.length<=100000) (λr=>ss r/\r.length<=a.length+256):=⟨λh=>by
 obtain⟨⟨n,hn,he⟩,h⟩:=h
 unfold oz
 refine T.wj (P:=λr=>∀ n,EO n e->ss r/\r.length<=a.length+n) ?_ λr hr=>⟨(hr n he).1,by have:=(hr n he).2; omega⟩
 refine T.sk (x:=(e,a)) (λ(e,a)=>(∃ n,EO n e/\a.length+n<=200000)/\ss a) (λ(e,_)=>zR e) (λ(e,a) r=>∀ n,EO n e->ss r/\r.length<=a.length+n) ?_ ?_ ⟨⟨n,he,O⟩,h.1⟩
 ·intro g g' hg x
  unfold dr ct eI
  exact mono
 ·intro⟨e,a⟩ ⟨⟨n,he,hn⟩,h1⟩ g hg
  obtain⟨k1,k2,k3,k4⟩:=he.ks
  obtain⟨h2,hM⟩:=Wt.ex k1
  have k2:=k2 h2 hM
  have R:∀ d:List zx,ss d/\d.length<=a.length+1->(ct (λy0 y1=>g (y0,y1)) e.kids (Nat.cast e.kids.length:Int) (0,d)).wp λr=>ss r/\r.length<=a.length+n:=λd J=>by
   unfold ct eI
   refine z99 e.kids (λ(i,_)=>i) (λm (_,c)=>ss c/\c.length<=a.length+1+m) hM k1 ⟨rfl,J⟩ (λm k ⟨i,c⟩ x hj hk N hle hxe h0 wM => ?_) λ⟨i,c⟩ hj hi => ?_
   ·dsimp only at h0 wM hxe
    refine T.zg (λ_=>T.qt ⟨h0,wM⟩ (T.ze (T.z8 (T.xl (T.wj (hg (nth e.kids i (zb .expr),c) ⟨⟨k,hxe▸hk,by have:=hj.2; omega⟩,hj.1⟩ (N2 (hxe▸N))) λr hr=>T.ze (T.z8 (T.zi ?_))))))) λhf=>absurd wM (gm hf)
    have:=hr k (hxe▸hk)
    exact⟨qv (O) (O),this.1,by have:=hj.2; omega⟩
   ·dsimp only at hi
    refine T.zg (λht=>absurd (uA ht) (O)) λ_=>T.ze (T.z8 (T.zi ⟨hj.1,by have:=hj.2; omega⟩))
  have hs:∀ d:List zx,Sp (ct (λy0 y1=>g (y0,y1)) e.kids (Nat.cast e.kids.length:Int) (0,d)) (ss d/\d.length<=a.length+1) (λr=>ss r/\r.length<=a.length+n):=λd=>⟨R d⟩
  have hq:∀ n',EO n' e->n'=n:=λn' h=>h.uniq he
  have k5:e.kind=2->e.name.length<=KK:=λh=>by have:=k4 h; unfold KK; omega
  clear hg R hM k1 k4
  unfold dr
  exact Er⟩
instance (l:List Expr) (s:Int×List zx):Sp (lV l (l.length:Int) s) (s.1=0/\l.length<=2/\(∀ x∈l,EK x)/\ss s.2/\s.2.length<=50000) (λr=>ss r/\r.length<=s.2.length+512):=⟨λh=>by
 unfold lV lW
 exact pX l (zb .expr) (λ(i,_)=>i) _ (λ_=>True) (λ(i,c)=>0<=i/\i<=2/\ss c/\(c.length:Int)<=s.2.length+256*i) h.2.2.1⟩
theorem EK.ks{e:Expr}(h:EK e):(∀ x∈e.kids,EK x)/\e.kids.length<=2/\(e.kind=2->e.name.length<=KK):=by
 obtain⟨n,hn,he⟩:=h
 obtain⟨k1,k2,k3,k4⟩:=he.ks
 obtain⟨h2,hM⟩:=Wt.ex k1
 refine⟨λx N => ?_,k3,λh=>by have:=k4 h; unfold KK; omega⟩
 obtain⟨k,hk⟩:=k1 x N
 have:=k2 h2 hM
 obtain⟨i,h0,h1,rfl⟩:=KD (d:=zb .expr) N
 obtain⟨a,ha,ha'⟩:=hM.le i.toNat
 obtain⟨b,I,Ke⟩:=hM.le (i+1).toNat
 rw[mn _ _ (zb .expr) h0 h1]at I
 have:=I.uniq (.snoc ha hk)
 exact⟨k,O,hk⟩
instance (e:Expr) (a:List zx):Sp (mH e a) (EK e/\ss a/\a.length<=10000) (λr=>ss r/\r.length<=a.length+600):=⟨λh=>by
 obtain⟨k1,k2,k3⟩:=EK.ks h.1
 unfold mH
 exact Er⟩
instance (e:Expr):Sp (dq e) (EK e) (λr=>ss r/\r.length<=600):=⟨λh=>by unfold dq oZ; exact Er⟩
instance (s:zx) (l:List zx):Sp (bQ s l) (l.length<=1000000) (λ_=>True):=⟨λh=>by unfold bQ; exact Er⟩
instance (e:Expr) (l:List zx):Sp (tK e l) (EK e/\l.length<=1000000) (λ_=>True):=⟨λh=>by unfold tK; exact Er⟩
instance (e:Expr) (l:List zx):Sp (fI e l) (EK e/\l.length<=1000000) (λ_=>True):=⟨λh=>by
 unfold fI
 refine T.sk (x:=(e,l)) (λ(e,l)=>EK e/\l.length<=1000000) (λ(e,_)=>zR e) (λ_ _=>True) ?_ ?_ h
 ·intro g g' hg x
  unfold cZ ja gY cT yi uY
  exact mono
 ·intro⟨e,l⟩ ⟨he,R⟩ g hg
  obtain⟨k1,k2,k3⟩:=EK.ks he
  have hn:e.kids.length=2->EK (nth e.kids 0 (zb .expr))/\EK (nth e.kids 1 (zb .expr)):=λh=>⟨k1 _ (xx (O) (O)),k1 _ (xx (O) (O))⟩
  have hc:∀ x,Sp (uY (λy0 y1=>g (y0,y1)) x l) (x∈e.kids) (λ_=>True):=λx=>⟨λN=>T.xl (T.wj (hg (x,l) ⟨k1 x N,R⟩ (N2 N)) λ_ _=>T.zi trivial)⟩
  have hs:Sp (ja (λy0 y1=>g (y0,y1)) e.kids λx=>uY (λy0 y1=>g (y0,y1)) x l) True (λ_=>True):=⟨λ_=>T.wj (cnq (ixq (d0:=zb .expr) (l:=e.kids) (c:=λx=>uY (λy0 y1=>g (y0,y1)) x l) ⟨O,λ_ h=>h⟩)) λ_ _=>trivial⟩
  clear hg k1 hc
  unfold cZ
  exact Er⟩
instance (a:Param) (s:zx):Sp (uC a s) True (λ_=>True):=⟨λ_=>by unfold uC; exact Er⟩
instance (s:zx) (l:List zx) (f:Form):Sp (yw s l f) (f.2.1.length<=8200/\l.length<=1000000) (λ_=>True):=⟨λh=>by unfold yw; exact Er⟩
instance (a b c:List zx):Sp (j8 [a,b,c]) (a.length+b.length+c.length<=1000000000/\ss a/\ss b/\ss c) (λr=>ss r/\r.length=a.length+b.length+c.length):=⟨λh=>by
 unfold j8
 refine T.zj ⟨qz,by simp; omega,qz⟩ (T.zi ⟨λx N => ?_,by simp; omega⟩)
 simp at N
 rcases N with k | k | k
 ·exact h.2.1 x k
 ·exact h.2.2.1 x k
 ·exact h.2.2.2 x k⟩
instance (f:Form) (d:List zx) (s:List zx×Int):Sp (lK f d f.2.2.2.2.2.1 (f.2.2.2.2.2.1.length:Int) s) (s.2=0/\f.2.2.2.2.2.1.length<=8200/\(∀ x∈f.2.2.2.2.2.1,EK x.2.2.2.1/\EK x.2.2.2.2.1)/\ss s.1/\s.1.length<=10) (λr=>ss r/\r.length<=20000000):=⟨λh=>by
 unfold lK lM
 exact pX f.2.2.2.2.2.1 (zb xj) (λ(_,i)=>i) _ (λ_=>True) (λ(c,i)=>0<=i/\i<=8200/\ss c/\(c.length:Int)<=s.1.length+1200*i) h.2.2.1⟩
instance (f:Form) (d:List zx) (s:List zx×Int):Sp (lL f d f.2.2.2.2.1 (f.2.2.2.2.1.length:Int) s) (s.2=0/\f.2.2.2.2.1.length<=8200/\(∀ x∈f.2.2.2.2.1,EK x.2.2.2.1/\EK x.2.2.2.2.1)/\ss s.1/\s.1.length<=20000000) (λr=>ss r/\r.length<=40000000):=⟨λh=>by
 unfold lL lN
 exact pX f.2.2.2.2.1 (zb xm) (λ(_,i)=>i) _ (λ_=>True) (λ(c,i)=>0<=i/\i<=8200/\ss c/\(c.length:Int)<=s.1.length+1200*i) h.2.2.1⟩
theorem FV.fe{f:Form}(h:FV f):(f.2.1.length<=8200/\f.2.2.2.1.length<=8200/\f.2.2.2.2.1.length<=8200/\f.2.2.2.2.2.1.length<=8200)/\(∀ x∈f.2.2.2.2.1,EK x.2.2.2.1/\EK x.2.2.2.2.1)/\(∀ x∈f.2.2.2.2.2.1,EK x.2.2.2.1/\EK x.2.2.2.2.1)/\(∀ x∈f.2.2.2.1,x.1.length<=KK):=by
 obtain⟨⟨_,⟨a2,_⟩,_,⟨a4,b4⟩,⟨a5,_⟩,a6,_⟩,_,_,_,_,c5,c6⟩:=h
 exact⟨⟨a2,a4,a5,a6⟩,λx N=>(c5 x N).2.2.2.2,λx N=>(c6 x N).2.2.2,b4⟩
instance (f:Form) (d:List zx):Sp (mu f d) (FV f/\d.length<=1000000) (λ_=>True):=⟨λh=>by
 obtain⟨h1,M,h3,_⟩:=FV.fe h.1
 unfold mu
 exact Er⟩
instance (l:List eb) (s:Int×List zx):Sp (nI l (l.length:Int) s) (s.1=0/\l.length<=8200/\(∀ x∈l,EK x.2.2.2.1/\EK x.2.2.2.2.1)/\s.2.length<=100000) (λr=>match r with | .inl _=>True | .inr z=>z.1≠0):=⟨λh=>by
 unfold nI nK
 exact pX l (zb xm) (λ(i,_)=>i) _ (λ_=>True) (λ(i,c)=>0<=i/\i<=8200/\c.length<=100000) h.2.2.1⟩
instance (f:Form):Sp (fJ f) (FW 8200 f) (λr=>r.1=0->FV f/\f.2.2.2.1.length<=64/\f.2.2.2.2.1.length<=64):=⟨λh=>by
 have h1:FV f->_:=FV.fe
 unfold fJ oZ
 exact Er⟩
open T PL
instance (f:Form):Sp (sY f) (FW 8200 f) (λ_=>True):=⟨λh=>by unfold sY; exact goq⟩
def PI(p:zc):Prop:=p.1.length<=1000000/\0<=p.2.1/\p.2.1<=p.1.length/\0<=p.2.2.1/\p.2.2.1<=31
def PG(p q:zc):Prop:=PI q/\q.1=p.1/\p.2.1<=q.2.1/\q.2.2.1=p.2.2.1
theorem XQ(l:zx)(c:UInt8) : -1<=U5 l c/\U5 l c<l.length:=by
 induction l with
 | nil=>simp[U5]
 | cons b l ih=>unfold U5; rw[List.length_cons]; split; omega; split<;>omega
theorem EW0:EW KK (Expr.mk 0 (false,[],[],()) [] []):=.mk ⟨vF,vF⟩ (by simp[rl]) (qz) (qz) nofun
theorem EWn(n:Lf.Rat)(h:rg n/\rl n<=1700):EW KK (Expr.mk 1 n [] []):=.mk h.1 (by unfold KK; omega) (qz) (qz) nofun
theorem EWz:EW KK (Expr.mk 1 (false,[],[],()) [] []):=.mk ⟨vF,vF⟩ (by simp[rl]) (qz) (qz) nofun
theorem EWs(s:zx)(h:s.length<=KK):EW KK (Expr.mk 2 (false,[],[],()) s []):=.mk ⟨vF,vF⟩ (by simp[rl]) h (qz) nofun
theorem EW1(k:Int)(a:Expr)(h:EW KK a):EW KK (Expr.mk k (false,[],[],()) [] [a]):=.mk ⟨vF,vF⟩ (by simp[rl]) (qz) (by unfold KK; simp) (by simpa using h)
theorem EW2(k:Int)(a b:Expr)(h:EW KK a)(g:EW KK b):EW KK (Expr.mk k (false,[],[],()) [] [a,b]):=.mk ⟨vF,vF⟩ (by simp[rl]) (qz) (by unfold KK; simp) (by simpa using⟨h,g⟩)
theorem gop{p:Prop} (h:p:=by
 intros
 repeat' (with_reducible first
  | refine T.zi ?_
  | refine T.zg (λ_ => ?_) (λ_ => ?_)
  | refine T.z8 ?_
  | refine T.ze ?_
  | refine T.uo ?_ ?_
  | refine T.qt ?_ ?_
  | refine T.vT ?_ ?_
  | refine T.vk ?_ ?_
  | refine T.zj ?_ ?_
  | refine T.vR (λ_ _ => ?_) (λ_ _ => ?_)
  | refine T.za ?_ (λ_ _ => ?_)
  | refine T.vA ?_ (λ_ _ => ?_)
  | refine T.xl ?_
  | dsimp only)
 all_goals grind [xe,uO,eF,jA,j4,Wp,Ye,X9,S4,PI,PG,XQ,EW0,EWn,EWs,EW1,EW2,EWz]):p:=h
theorem lpp{σ ρ:Type}{r:σ->T (σ⊕ρ)}{Q:ρ->Prop}(hb:σ->Prop)(μ:σ->Nat){s:σ}(hs:hb s:=by grind [PI,PG])
  (h:∀ s,hb s->(r s).wp λz=>match z with | .inl s'=>hb s'/\μ s'<μ s | .inr y=>Q y:=by
 intros
 repeat' (with_reducible first
  | refine T.zi ?_
  | refine T.zg (λ_ => ?_) (λ_ => ?_)
  | refine T.z8 ?_
  | refine T.ze ?_
  | refine T.uo ?_ ?_
  | refine T.qt ?_ ?_
  | refine T.vT ?_ ?_
  | refine T.vk ?_ ?_
  | refine T.zj ?_ ?_
  | refine T.vR (λ_ _ => ?_) (λ_ _ => ?_)
  | refine T.za ?_ (λ_ _ => ?_)
  | refine T.vA ?_ (λ_ _ => ?_)
  | refine T.xl ?_
  | dsimp only)
 all_goals grind [xe,uO,eF,jA,j4,Wp,Ye,X9,S4,PI,PG,XQ,EW0,EWn,EWs,EW1,EW2,EWz]):(T.loop r s).wp Q:=T.vS hb μ hs h
instance (p:zc):Sp (bw p) (PI p) (PG p):=⟨λh=>by
 unfold bw bz
 exact lpp (PG p) (λq=>(q.1.length-q.2.1).toNat)⟩
instance (e:zx) (p:zc):Sp (uD e p) (PI p) (λr=>PG p r.2/\(r.1=0\/(0<=U5 e (byteOf r.1)/\p.2.1<r.2.2.1))):=⟨λh=>by
 have e1:∀ x:Int,-1000000000<=x->x<=1000000000->qo (qo (x+1)-1)=x:=λx h0 h1=>by rw[qv (x:=x+1) (O) (O),qv (O) (O)]; omega
 unfold uD dt strings_IndexByte
 exact gop⟩
instance (p:zc):Sp (kz p) (PI p) (λr=>match r with | .inl q=>PI q/\q.1=p.1/\q.2.1=p.2.1/\q.2.2.1=p.2.2.1+1 | .inr z=>z.1.1≠0):=⟨λh=>by
 unfold kz vn
 exact gop⟩
instance (c:Int->T Bool) [∀ x,Sp (c x) True (λ_=>True)] (m f:Int) (p:zc):Sp (bX c m f p) (PI p) (PG p):=⟨λh=>by
 unfold bX ye
 exact lpp (PG p) (λq=>(q.1.length-q.2.1).toNat)⟩
instance (c:Int->T Bool) [∀ x,Sp (c x) True (λ_=>True)] (m:Int) (p:zc):Sp (uE c m p) (PI p) (λr=>PG p r.2/\r.1.length<=1000000):=⟨λh=>by
 unfold uE
 exact gop⟩
instance (a:Int):Sp (ke a) True (λ_=>True):=⟨λ_=>by unfold ke; exact gop⟩
def PR(p:zc)(r:(Expr×zc)⊕(xh×zc)):Prop:=match r with | .inl z=>EW KK z.1/\PG p z.2 | .inr z=>z.1.1≠0
instance (p:zc):Sp (kv p) (PI p) (PR p):=⟨λh=>by
 unfold kv vn PR
 exact gop⟩
def PQ(p:zc)(r:(Expr×zc)⊕(xh×zc)):Prop:=(∀ z,r=.inl z->EW KK z.1/\PG p z.2)/\∀ z,r=.inr z->z.1.1≠0
theorem ze3{p:zc}{r:(Expr×zc)⊕(xh×zc)}(h:PR p r):PQ p r:=⟨λz e=>by subst e; exact h,λz e=>by subst e; exact h⟩
theorem zm4{p:Prop} (h:p:=by
 intros
 repeat' (with_reducible first
  | refine T.zi ?_
  | refine T.zg (λ_ => ?_) (λ_ => ?_)
  | refine T.z8 ?_
  | refine T.ze ?_
  | refine T.uo ?_ ?_
  | refine T.qt ?_ ?_
  | refine T.vT ?_ ?_
  | refine T.vk ?_ ?_
  | refine T.zj ?_ ?_
  | refine T.vR (λ_ _ => ?_) (λ_ _ => ?_)
  | refine T.za ?_ (λ_ _ => ?_)
  | refine T.vA ?_ (λ_ _ => ?_)
  | refine T.xl ?_
  | dsimp only)
 all_goals grind [xe,uO,eF,jA,j4,PI,PG,PQ,XQ,EW0,EWn,EWs,EW1,EW2,EWz]):p:=h
theorem Ry{g:zc->T ((Expr×zc)⊕(xh×zc))}{a0:Int}{s:zx}(hg:∀ y,PI y/\a0<y.2.1/\y.1=s->(g y).wp (PQ y))(p:zc)(hp:PI p/\a0<=p.2.1/\p.1=s):(vC g p).wp (PQ p):=by
 unfold vC
 refine T.sk (x:=p) (λp=>PI p/\a0<=p.2.1/\p.1=s) (λp=>(p.1.length-p.2.1).toNat) (λp r=>PQ p r) ?_ ?_ hp
 ·intro F F' hF x
  unfold uv
  exact mono
 ·intro p hp F hF
  have h1:∀ y,Sp (F y) ((PI y/\a0<=y.2.1/\y.1=s)/\(y.1.length-y.2.1).toNat<(p.1.length-p.2.1).toNat) (PQ y):=λy=>⟨λh=>hF y h.1 h.2⟩
  have M:∀ y,Sp (g y) (PI y/\a0<y.2.1/\y.1=s) (PQ y):=λy=>⟨hg y⟩
  have h3:∀ p,Sp (kv p) (PI p) (PQ p):=λp=>⟨λh=>T.wj (Sp.sp h) λ_=>ze3⟩
  clear hF hg
  unfold uv vn
  exact zm4
open T PL
section
variable {g:zc->T ((Expr×zc)⊕(xh×zc))} {a0:Int} {s:zx}
theorem zgP(a b:UInt8):([a,b]:zx).length=2:=rfl
theorem IL{p:Prop} (h:p:=by
 intros
 repeat' (with_reducible first
  | refine T.zi ?_
  | refine T.zg (λ_ => ?_) (λ_ => ?_)
  | refine T.z8 ?_
  | refine T.ze ?_
  | refine T.uo ?_ ?_
  | refine T.qt ?_ ?_
  | refine T.vT ?_ ?_
  | refine T.vk ?_ ?_
  | refine T.zj ?_ ?_
  | refine T.vR (λ_ _ => ?_) (λ_ _ => ?_)
  | refine T.za ?_ (λ_ _ => ?_)
  | refine T.vA ?_ (λ_ _ => ?_)
  | refine T.xl ?_
  | dsimp only)
 all_goals grind [xe,PG,PQ,PI,XQ,EW0,EW2,zgP]):p:=h
theorem z8O{e:zx}(he:e.length=2)(k:xh)(hk:∀ y,PI y/\a0<=y.2.1/\y.1=s->(vC g y).wp (PQ y))(p:zc)(hp:PI p/\a0<=p.2.1/\p.1=s):(wu g () e k p).wp (PQ p):=by
 have h1:∀ y,Sp (vC g y) (PI y/\a0<=y.2.1/\y.1=s) (PQ y):=λy=>⟨hk y⟩
 clear hk
 have h5:∀ c,U5 e c<2:=λc=>by have:=(XQ e c).2; omega
 have M:∀ z,Sp (vb g e k z) (PG p z.1/\EW KK z.2.2) (λr=>(∀ z,r=.inl z->EW KK z.2.1/\PG p z.1)/\∀ z,r=.inr z->z.1.1≠0):=λz=>⟨λh=>by
  unfold vb
  refine T.vS (λ(q,_,x)=>PG p q/\EW KK x) (λ(q,_,_)=>(q.1.length-q.2.1).toNat) h ?_
  unfold vd strings_IndexByte xe
  exact IL⟩
 unfold wu
 exact IL
theorem Ly(hg:∀ y,PI y/\a0<y.2.1/\y.1=s->(g y).wp (PQ y))(p:zc)(hp:PI p/\a0<=p.2.1/\p.1=s):(vt g p).wp (PQ p):=by
 have h1:∀ e:zx,e.length=2->∀ k,Sp (wu g () e k p) True (PQ p):=λe he k=>⟨λ_=>z8O he k (Ry hg) p hp⟩
 have M:=h1 [42,47] rfl
 clear h1 hg
 unfold vt
 exact IL
theorem z8P{e:zx}(he:e.length=2)(k:xh)(hk:∀ y,PI y/\a0<=y.2.1/\y.1=s->(vt g y).wp (PQ y))(p:zc)(hp:PI p/\a0<=p.2.1/\p.1=s):(wo g () e k p).wp (PQ p):=by
 have h1:∀ y,Sp (vt g y) (PI y/\a0<=y.2.1/\y.1=s) (PQ y):=λy=>⟨hk y⟩
 clear hk
 have h5:∀ c,U5 e c<2:=λc=>by have:=(XQ e c).2; omega
 have M:∀ z,Sp (wV g e k z) (PG p z.1/\EW KK z.2.2) (λr=>(∀ z,r=.inl z->EW KK z.2.1/\PG p z.1)/\∀ z,r=.inr z->z.1.1≠0):=λz=>⟨λh=>by
  unfold wV
  refine T.vS (λ(q,_,x)=>PG p q/\EW KK x) (λ(q,_,_)=>(q.1.length-q.2.1).toNat) h ?_
  unfold wW strings_IndexByte xe
  exact IL⟩
 unfold wo
 exact IL
end
instance (p:zc):Sp (cO p) (PI p) (PQ p):=⟨λh=>by
 unfold cO
 refine T.sk (x:=p) PI (λp=>(p.1.length-p.2.1).toNat) PQ ?_ ?_ h
 ·intro g g' hg x
  unfold kZ wo wV wW vt wu vb vd vC uv
  exact mono
 ·intro p hp g hg
  have h1:=z8P (g:=g) (a0:=p.2.1) (s:=p.1) (e:=[43,45]) rfl (3,4,()) (Ly λy h=>hg y h.1 (by grind [PI])) p ⟨hp,O,rfl⟩
  have M:Sp (wo g () ([43,45]:zx) (3,4,()) p) True (PQ p):=⟨λ_=>h1⟩
  clear hg h1
  unfold kZ
  exact IL⟩
instance (s:zx):Sp (rb s) (s.length<=1000000) (λr=>EW KK r.1):=⟨λh=>by
 unfold rb ir vn gK yV
 exact IL⟩
open T PL
def wd(l:List zx):Prop:=∀ s∈l,1<=s.length/\s.length<=20000
theorem zdo(c:UInt8):∀ (s cur:zx),cur.length+s.length<=20000->wd (sj c cur s)/\(sj c cur s).length<=s.length+1:=by
 intro s
 induction s with
 | nil=>intro cur h; unfold sj; split; exact⟨nofun,qz⟩; rename_i e; exact⟨λx N=>by rw[qL.1 N]; have:=qT.2 e; simp at h; omega,qz⟩
 | cons b s ih =>
  intro cur h
  rw[List.length_cons]at h
  unfold sj
  split
  ·split
   ·have:=ih [] (by simp; omega); exact⟨this.1,by rw[List.length_cons]; omega⟩
   ·rename_i e
    have:=ih [] (by simp; omega)
    refine⟨λx N => ?_,by simp; omega⟩
    rcases xL.1 N with rfl | N
    ·have:=qT.2 e; omega
    ·exact this.1 x N
  ·have:=ih (cur++[b]) (by simp; omega)
   exact⟨this.1,by rw[List.length_cons]; omega⟩
instance (s:zx):Sp (tc s) (s.length<=20000) (λr=>wd r/\r.length<=20001/\(s.length=0->r.length=0)):=⟨λh=>by
 unfold tc strings_FieldsFunc
 have:=zdo 32 s [] (by simpa using h)
 refine T.xl (T.zj (O) (T.zi (T.zi ⟨this.1,O,λe => ?_⟩)))
 rw[V e]; rfl⟩
theorem RX(l c:zx) : -1<=rj l c/\rj l c<l.length:=by
 induction l with
 | nil=>simp[rj]
 | cons b l ih=>unfold rj; rw[List.length_cons]; split; omega; split<;>omega
theorem gow{p:Prop} (h:p:=by
 intros
 repeat' (with_reducible first
  | refine T.zi ?_
  | refine T.zg (λ_ => ?_) (λ_ => ?_)
  | refine T.z8 ?_
  | refine T.ze ?_
  | refine T.uo ?_ ?_
  | refine T.qt ?_ ?_
  | refine T.vT ?_ ?_
  | refine T.vk ?_ ?_
  | refine T.zj ?_ ?_
  | refine T.vR (λ_ _ => ?_) (λ_ _ => ?_)
  | refine T.za ?_ (λ_ _ => ?_)
  | refine T.vA ?_ (λ_ _ => ?_)
  | refine T.xl ?_
  | dsimp only)
 all_goals grind [xe,uO,eF,jA,vV,j4,wd,X9,S4,N4,EW0,Ye,Wp,zgP,Dn,Hs]):p:=h
instance (b:zx):Sp (strings_IndexAny b [60,61]) (b.length<=1000000) (λr => -1<=r/\r<b.length):=⟨λh=>by
 unfold strings_IndexAny
 exact T.zj ⟨O,qz,qz,xn⟩ (T.zi (RX _ _))⟩
instance (a b:zx):Sp (strings_HasPrefix a b) True (λr=>r=true->b.length<=a.length):=⟨λ_=>by unfold strings_HasPrefix jV; exact gow⟩
instance (a b:zx):Sp (strings_Contains a b) (a.length<=1000000) (λ_=>True):=⟨λh=>by unfold strings_Contains; exact gow⟩
instance (b v:zx):Sp (dC b v) (b.length<=20000/\v.length<=10) (λr=>EW KK r.1/\EW KK r.2.1):=⟨λh=>by
 have e1:([61]:zx).length=1:=rfl
 unfold dC
 exact gow⟩
instance (l:List zx) (n i:Int) (s:zx):Sp (nu l n i s) (0<=i/\i<n) (λr=>r=true->l.length=n):=⟨λh=>by unfold nu; exact gow⟩
instance (l:List zx) (i:Int):Sp (nt l i) (wd l/\0<=i/\i<=10) (λr=>r.1.length<=20000):=⟨λh=>by
 have h1:∀ j:Int,0<=j->j<l.length->1<=(nth l j (zb .str)).length/\(nth l j (zb .str)).length<=20000:=λj h0 h1=>h.1 _ (xx h0 h1)
 unfold nt
 exact gow⟩
end Go.AM.Lf
