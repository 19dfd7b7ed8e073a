/-
  Plain laws of the lifted program, part 0.
-/
import Derived.Test.YtjklmealdnfhfaaGreatDoorLf1
import Derived.Test.YtjklmealdnfhfaaGreatDoorAmA
import Derived.Test.YtjklmealdnfhfaaGreatDoorAmD
import Derived.KernelRfl
set_option linter.unusedVariables false
open Int renaming toNat_natCast -> zA, eq_ofNat_of_zero_le -> qN, tdiv -> xI, tmod -> xJ
open Nat renaming mul_le_mul_right -> Y, mul_comm -> zE, pow_succ -> zF, lt_of_le_of_lt -> zG, le_refl -> zJ, mul_le_mul_left -> zK, gcd -> zL, div_lt_iff_lt_mul -> zM, le_div_iff_mul_le -> zN, pos_of_ne_zero -> zO, le_trans -> zQ, pow_pos -> zT, lt_of_mul_lt_mul_right -> zU, mod_lt -> zV, strongRecOn -> zX, pow_le_pow_right -> zZ, pow_add -> qA, eq_zero_or_pos -> qB, div_add_mod -> qC, mul_lt_mul_of_pos_right -> qD, add_comm -> qG, add_zero -> qH, div_eq_of_lt -> qI, mul_assoc -> qJ, div_le_self -> qK, xor_lt_two_pow -> qM, mul_add -> qO, div_div_eq_div_mul -> qQ, mod_eq_of_lt -> qS, div_mul_le_self -> qV, mul_le_mul -> qX, mul_lt_mul_of_lt_of_le -> qY, eq_of_mul_eq_mul_left -> qZ, or_lt_two_pow -> xA, zero_le -> xB, add_assoc -> xC, and_le_left -> xE, gcd_le_left -> xF, mul_mod_mul_right -> xH
open List renaming replicate -> X, eq_nil_of_length_eq_zero -> V, take_of_length_le -> zI, getD_eq_getElem?_getD -> zP, take_set_of_le -> zS, length_replicate -> zW, take_succ_eq_append_getElem -> zY, drop_drop -> qE, drop_zero -> qF, mem_singleton -> qL, getElem?_eq_none -> qR, length_pos_iff -> qT, replicate_succ -> qU, getElem?_take -> qW, length_eq_zero_iff -> xD, sizeOf_lt_of_mem -> xG, drop -> xK, mem_cons -> xL
open BitVec renaming ofInt -> zH
open SizeOf renaming sizeOf -> zR
open Go.IntKind renaming wrap -> qP
open Sum renaming elim -> xM
open Go.AM.T (Fp Gg UC WA X9 XS Xp b9 ft iQ j6 p9 sT vG vK xi xz yU z8I zt)
namespace Go.AM.PL
def nv:List Int->Nat
 | []=>0
 | x::l=>x.toNat+4294967296*nv l
def qx(l:List Int):Prop:=∀ x∈l,0<=x/\x<4294967296
def vN(n:Nat):List Int:=if h:n=0 then[]else((n % 4294967296:Nat):Int)::vN (n / 4294967296)
termination_by n
decreasing_by omega
theorem gI:vN 0=[]:=by rw[vN]; rfl
theorem XW{n:Nat}(h:n≠0):vN n=((n % 4294967296:Nat):Int)::vN (n / 4294967296):=by rw[vN,dif_neg h]
theorem vF:qx []:=λ_ h=>nomatch h
theorem gR{x:Int}{l:List Int}:qx (x::l)↔(0<=x/\x<4294967296)/\qx l:=by
 unfold qx; simp
theorem U7{a b:List Int}:qx (a++b)↔qx a/\qx b:=by
 unfold qx; simp
 grind
theorem WY{a:List Int}(h:qx a)(n:Nat):qx (a.take n):=λx N=>h x (List.mem_of_mem_take N)
theorem rD{a:List Int}(h:qx a)(n:Nat):qx (a.drop n):=λx N=>h x (List.mem_of_mem_drop N)
theorem vM(n:Nat):qx (X n 0):=λx N=>by
 grind
theorem HT{a:List Int}(h:qx a)(i:Nat){x:Int}(h0:0<=x)(h1:x<4294967296):qx (a.set i x):=λy hy=>by
 rcases List.mem_or_eq_of_mem_set hy with h' | h'
 ·exact h y h'
 ·grind
theorem fg{a:List Int}(h:qx a)(i:Int):0<=nth a i 0/\nth a i 0<4294967296:=by
 unfold nth
 rw[zP]
 cases N:a[i.toNat]? with
 | none=>simp
 | some x=>exact h x (List.mem_of_getElem? N)
theorem wH(n:Nat):qx (vN n):=by
 induction n using zX with
 | _ n ih =>
  by_cases h:n=0
  ·subst h; rw[gI]; exact vF
  ·rw[XW h]
   exact gR.2 ⟨Z,ih _ (Z)⟩
@[simp] theorem z2k:nv []=0:=rfl
@[simp] theorem XU(x:Int)(l:List Int):nv (x::l)=x.toNat+4294967296*nv l:=rfl
@[simp] theorem ji(n:Nat):nv (vN n)=n:=by
 induction n using zX with
 | _ n ih =>
  by_cases h:n=0
  ·subst h; rw[gI]; rfl
  ·rw[XW h,XU,ih _ (Z)]; omega
theorem pg(a b:List Int):nv (a++b)=nv a+4294967296 ^ a.length*nv b:=by
 induction a with
 | nil=>simp
 | cons x a ih=>simp only[List.cons_append,XU,ih,List.length_cons,zF,qO]; rw[<- qJ,zE 4294967296 (4294967296 ^ a.length)]; omega
theorem YW{l:List Int}(h:qx l):nv l<4294967296 ^ l.length:=by
 induction l with
 | nil=>simp
 | cons x l ih =>
  have h':=gR.1 h
  have:=ih h'.2
  simp
  omega
@[simp] theorem z89(n:Nat):nv (X n 0)=0:=by
 induction n with
 | zero=>rfl
 | succ n ih=>simp[qU,ih]
def UE(l:List Int):Prop:=∀ x,l.getLast? = some x->x≠0
theorem Gs{x:Int}{l:List Int}(h:UE (x::l)):UE l:=by
 cases l with
 | nil=>nofun
 | cons y l=>intro z hz; exact h z (xy)
theorem Li{l:List Int}(h:qx l)(ht:UE l)(hn:l≠[]):nv l≠0:=by
 induction l with
 | nil=>grind
 | cons x l ih =>
  have h':=gR.1 h
  cases l with
  | nil =>
   have:=ht x rfl
   simp; omega
  | cons y l =>
   have:=ih h'.2 (Gs ht) (qz)
   rw[XU]; omega
theorem CQ{l:List Int}(h:qx l)(ht:UE l):vN (nv l)=l:=by
 induction l with
 | nil=>exact gI
 | cons x l ih =>
  have h':=gR.1 h
  have h1:=ih h'.2 (Gs ht)
  rw[XW (Li h ht (qz)),XU]
  grind
theorem dv{n:Nat}:vN n=[]↔n=0:=by
 constructor
 ·intro h; rw[<- ji n,h]; rfl
 ·rintro rfl; exact gI
theorem YV(l:List Int):nv (l++[0])=nv l:=by simp[pg]
theorem uD{n k:Nat}:(vN n).length<=k↔n<4294967296 ^ k:=by
 induction k generalizing n with
 | zero =>
  simp only[Nat.le_zero_eq,xD,dv]; omega
 | succ k ih =>
  by_cases h:n=0
  ·grind
  ·rw[XW h,List.length_cons,zF,Nat.add_le_add_iff_right,ih]
   grind
theorem Lk{n k:Nat}:k<(vN n).length↔4294967296 ^ k<=n:=by
 have:=uD (n:=n) (k:=k); omega
theorem vJ{l:List Int}(h:qx l):(vN (nv l)).length<=l.length:=uD.2 (YW h)
theorem CM{a b:List Int}(i:Int)(h:(a.length:Int)<=i):nth (a++b) i 0=nth b (i-a.length) 0:=by
 unfold nth
 grind
theorem WC(a:List Int)(i:Nat)(h:i<a.length):a.take (i+1)=a.take i++[nth a i 0]:=by
 rw[zY h]; simp[nth,h]
theorem CO{a:List Int}{i:Nat}(h:i<a.length):nv (a.take (i+1))=nv (a.take i)+4294967296 ^ i*(nth a i 0).toNat:=by
 rw[WC a i h,pg]
 have:(a.take i).length=i:=by simp; omega
 simp[this]
theorem ng(a:List Int)(i:Nat)(h:i<=a.length):nv a=nv (a.take i)+4294967296 ^ i*nv (a.drop i):=by
 have:=pg (a.take i) (a.drop i)
 rw[List.take_append_drop]at this
 grind
theorem F6{a:List Int}{i:Nat}(h:i<a.length):nv (a.drop i)=(nth a i 0).toNat+4294967296*nv (a.drop (i+1)):=by
 rw[List.drop_eq_getElem_cons h,XU]; simp[nth,h]
theorem JY{α:Type}(a:List α)(i j:Nat)(x:α)(h:j<=i):(a.set i x).take j=a.take j:=by
 rw[zS h]
theorem WB(a:List Int)(i:Nat)(x:Int)(h:i<a.length):(a.set i x).take (i+1)=a.take i++[x]:=by
 rw[WC _ _ (xy),zS (zJ _)]
 simp[nth,h]
theorem cv(a:List Int)(i:Nat)(x:Int):(a.set i x).drop (i+1)=a.drop (i+1):=by
 rw[List.drop_set_of_lt (Z)]
end Go.AM.PL
namespace Go.AM.T
variable {σ ρ:Type}
theorem ct{r:σ->T (σ⊕ρ)}(hb:σ->Prop)(μ:σ->Nat)(Q:ρ->Prop)
  (h:∀ s,hb s->(∃ s',(r s).run=some (.inl s')/\hb s'/\μ s'<μ s)\/(∃ x,(r s).run=some (.inr x)/\Q x)) {s:σ} (hs:hb s):∃ x,(loop r s).run=some x/\Q x:=by
 generalize hm:μ s=m
 induction m using zX generalizing s with
 | _ m ih =>
  rcases h s hs with⟨s',h1,M,h3⟩ | ⟨x,h1,M⟩
  ·rw[XS h1]
   grind
  ·exact⟨x,p9 h1,M⟩
end Go.AM.T
namespace Go.AM.PL
def lm(a:List Int)(i:Nat):Nat:=(nth a (i:Int) 0).toNat
theorem lr{a:List Int}(h:qx a)(i:Nat):lm a i<4294967296:=by have:=fg h i; unfold lm; omega
theorem iG{a:List Int}(h:qx a)(i:Nat):nth a (i:Int) 0=(lm a i:Int):=by have:=fg h i; unfold lm; omega
theorem oF{a:List Int}(h:qx a)(i:Nat):wi a i 0=(lm a i:Int):=by have:=iG h i; unfold nth at this; unfold wi; simpa using this
theorem zgC{a:List Int}{i:Nat}(h:a.length<=i):lm a i=0:=by
 unfold lm nth; simp[qR h]
theorem ve(a:List Int)(i:Nat):nv (a.take (i+1))=nv (a.take i)+4294967296 ^ i*lm a i:=by
 by_cases h:i<a.length
 ·exact CO h
 ·rw[zgC (Z),zI (Z),zI (Z)]; simp
theorem gH{a:List Int}{i:Nat}(h:a.length<=i):nv (a.take i)=nv a:=by rw[zI h]
theorem Jd{a:List Int}{i j:Nat}{x:Int}(h:i<a.length):lm (a.set i x) j=if i=j then x.toNat else lm a j:=by
 unfold lm nth
 grind
theorem CN{a:List Int}{i:Nat}(x:Int)(h:i<a.length):nv (a.set i x)+4294967296 ^ i*lm a i=nv a+4294967296 ^ i*x.toNat:=by
 have h1:=ng (a.set i x) (i+1) (xy)
 have M:=ng a (i+1) (Z)
 rw[cv,WB a i x h,pg]at h1
 rw[ve]at M
 have h3:(a.take i).length=i:=by simp; omega
 rw[h3]at h1
 simp at h1
 omega
theorem sO{a:List Int}{i:Nat}(x:Int)(h:i<a.length):nv ((a.set i x).take (i+1))=nv (a.take i)+4294967296 ^ i*x.toNat:=by
 rw[WB a i x h,pg]
 have h3:(a.take i).length=i:=by simp; omega
 rw[h3]; simp
theorem Fj(i:Nat):0<4294967296 ^ i:=xy
theorem bV{a:List Int}(h:qx a)(i:Nat):nv (a.take i)<4294967296 ^ i:=by
 have:=YW (WY h i)
 have M:(4294967296:Nat) ^ (a.take i).length<=4294967296 ^ i:=zZ (Z) (xy)
 omega
def DU(a b:Nat):Int:=if a<b then -1 else if b<a then 1 else 0
theorem TH{r:Int->T (Int⊕(Unit⊕Int))}(x y:List Int)(N:qx x)(hy:qx y)(R:x.length=y.length)
  (h:∀ i:Nat,i<x.length->(r (i:Int)).run=some (if nth x i 0<nth y i 0 then .inr (.inr (-1))else if nth y i 0<nth x i 0 then .inr (.inr 1)else .inl ((i:Int)-1)))
  (h0:(r (-1)).run=some (.inr (.inl ()))):(T.loop r ((x.length:Int)-1)).run=some (if nv x<nv y then .inr (-1)else if nv y<nv x then .inr 1 else .inl ()):=by
 have key:∀ n:Nat,n<=x.length->(T.loop r ((n:Int)-1)).run=some (if nv (x.take n)<nv (y.take n)then .inr (-1)else if nv (y.take n)<nv (x.take n)then .inr 1 else .inl ()):=by
  intro n
  induction n with
  | zero=>intro _; simpa using p9 h0
  | succ n ih =>
   intro hn
   have e1:((n+1:Nat):Int)-1=(n:Int):=Z
   rw[e1]
   have hr:=h n (Z)
   rw[iG N,iG hy]at hr
   have a1:=bV N n
   have a2:=bV hy n
   rw[ve,ve]
   rcases Nat.lt_trichotomy (lm x n) (lm y n)with c | c | c
   ·have hm:=zK (4294967296 ^ n) (show lm x n+1<=lm y n by omega)
    rw[qO]at hm
    rw[if_pos (Z)]at hr
    rw[if_pos (Z)]
    exact p9 hr
   ·rw[if_neg (Z),if_neg (Z)]at hr
    rw[XS hr,ih (Z),c]
    simp
   ·have hm:=zK (4294967296 ^ n) (show lm y n+1<=lm x n by omega)
    rw[qO]at hm
    rw[if_neg (Z),if_pos (Z)]at hr
    rw[if_neg (Z),if_pos (Z)]
    exact p9 hr
 have:=key x.length (zJ _)
 rw[List.take_length]at this
 rw[R,List.take_length,<- R]at this
 exact this
theorem Jc{A hI:Nat}(h:(vN A).length<(vN hI).length):A<hI:=by
 have h1:=uD.1 (zJ (vN A).length)
 have M:=Lk.1 h
 omega
end Go.AM.PL
namespace Go.AM.PL
theorem De(n:Nat)(h:n<18446744073709551616):qP .u64 (n:Int)=n:=gL (Z) (Z)
theorem Qc(n:Nat)(h:n<4294967296):qP .u32 (n:Int)=n:=Py (Z) (Z)
theorem ly{n:Nat}(h:n<18446744073709551616):wh (n:Int)=n:=gL (Z) (Z)
theorem K4{n:Nat}(h:n<4294967296):gK (n:Int)=n:=Py (Z) (Z)
theorem jV{a:List Int}(h:qx a)(i:Nat){n:Nat}(h1:n<4294967296):qx (a.set i (n:Int)):=HT h i (Z) (Z)
theorem DF{x y:Nat}(N:x<4294967296)(hy:y<4294967296):GO .u32 (x:Int) (y:Int)=((x &&& y:Nat):Int):=by
 show qP .u32 (((zH 32 (x:Int) &&& zH 32 (y:Int)).toNat:Nat):Int)=_
 have e:(zH 32 (x:Int) &&& zH 32 (y:Int)).toNat=x &&& y:=by
  grind
 rw[e]
 exact Qc _ (zG xE N)
theorem KE{x y:Nat}(N:x<4294967296)(hy:y<4294967296):H9 .u32 (x:Int) (y:Int)=((x ||| y:Nat):Int):=by
 show qP .u32 (((zH 32 (x:Int) ||| zH 32 (y:Int)).toNat:Nat):Int)=_
 have e:(zH 32 (x:Int) ||| zH 32 (y:Int)).toNat=x ||| y:=by
  grind
 rw[e]
 exact Qc _ (xA (n:=32) N hy)
theorem Gx{x y:Nat}(N:x<4294967296)(hy:y<4294967296):LZ .u32 (x:Int) (y:Int)=((x ^^^ y:Nat):Int):=by
 show qP .u32 (((zH 32 (x:Int) ^^^ zH 32 (y:Int)).toNat:Nat):Int)=_
 have e:(zH 32 (x:Int) ^^^ zH 32 (y:Int)).toNat=x ^^^ y:=by
  grind
 rw[e]
 exact Qc _ (qM (n:=32) N hy)
theorem z8s{x y:Nat}(N:x<18446744073709551616)(hy:y<18446744073709551616):H9 .u64 (x:Int) (y:Int)=((x ||| y:Nat):Int):=by
 show qP .u64 (((zH 64 (x:Int) ||| zH 64 (y:Int)).toNat:Nat):Int)=_
 have e:(zH 64 (x:Int) ||| zH 64 (y:Int)).toNat=x ||| y:=by
  grind
 rw[e]
 exact De _ (xA (n:=64) N hy)
theorem Ln(x y m:Nat)(hy:y<2 ^ m):x*2 ^ m ||| y=x*2 ^ m+y:=by
 have:=Nat.shiftLeft_add_eq_or_of_lt hy x
 rw[Nat.shiftLeft_eq]at this
 grind
theorem zkO{x:Int}(h0:0<=x)(h1:x<4294967296):Z7 .u64 x 32=x*4294967296:=by
 have e:Z7 .u64 x 32=wh (x*4294967296):=rfl
 rw[e,gL (Z) (Z)]
theorem zn7{x y:Int}(h0:0<=x)(h1:x<4294967296)(M:0<=y)(h3:y<4294967296):H9 .u64 (Z7 .u64 x 32) (wh y)=x*4294967296+y:=by
 rw[zkO h0 h1,gL M (Z)]
 obtain⟨a,rfl⟩:=qN h0
 obtain⟨b,rfl⟩:=qN M
 have e:=z8s (x:=a*4294967296) (y:=b) (Z) (Z)
 rw[Ln a b 32 (xy)]at e
 grind
theorem z0O{x y:Int}(h0:0<=x)(h1:x<4294967296)(M:0<=y)(h3:y<4294967296):H9 .u64 (Z7 .u64 x 32) y=x*4294967296+y:=by
 have:=zn7 h0 h1 M h3
 rwa [gL M (Z)]at this
theorem za6{x:Int}(h0:0<=x):jj .u64 x 32=x / 4294967296:=by
 show Int.fdiv x 4294967296=_
 grind
theorem Xx{x y:Int}(h:0<=x):xI x y=x / y:=xy
theorem Xy{x y:Int}(h:0<=x):xJ x y=x % y:=xy
theorem ze3{v:Nat}(h:v<4294967296):v / 2147483648=if v.testBit 31=true then 1 else 0:=xy
theorem Il{v:Nat}(h:v<4294967296):v.testBit 31=decide (2147483648<=v):=xy
theorem zkR{x y b:Nat}(N:x<4294967296)(hy:y<4294967296)(I:b<=1) :
  gK (gK ((x:Int)-y)-b)=(((x+4294967296*(if x<y+b then 1 else 0))-y-b:Nat):Int):=by
 rw[Zc,Zc]
 grind
theorem Tx{x y b d:Nat}(N:x<4294967296)(hy:y<4294967296)(I:b<=1)(J:d=(x+4294967296*(if x<y+b then 1 else 0))-y-b) :
  jj .u32 (H9 .u32 (GO .u32 (LZ .u32 (4294967295:Int) x) y) (GO .u32 (LZ .u32 (4294967295:Int) (LZ .u32 x y)) (d:Int))) 31=if x<y+b then 1 else 0:=by
 have Eu:d<4294967296:=by rw[J]; split<;>omega
 have e1:=Gx (x:=4294967295) (y:=x) (Z) N
 have h1:4294967295 ^^^ x<4294967296:=qM (n:=32) (Z) N
 have e2:=DF h1 hy
 have M:(4294967295 ^^^ x) &&& y<4294967296:=zG xE h1
 have e3:=Gx N hy
 have h3:x ^^^ y<4294967296:=qM (n:=32) N hy
 have e4:=Gx (x:=4294967295) (y:=x ^^^ y) (Z) h3
 have h4:4294967295 ^^^ (x ^^^ y)<4294967296:=qM (n:=32) (Z) h3
 have e5:=DF h4 Eu
 have h5:(4294967295 ^^^ (x ^^^ y)) &&& d<4294967296:=zG xE h4
 have e6:=KE M h5
 have h6:=xA (n:=32) M h5
 have ec:(4294967295:Int)=((4294967295:Nat):Int):=rfl
 rw[ec,e1,e2,e3,e4,e5,e6]
 show Int.fdiv _ 2147483648=_
 rw[Int.fdiv_eq_ediv_of_nonneg _ (Z)]
 have e7:=ze3 h6
 have e8:(((((4294967295 ^^^ x) &&& y) ||| ((4294967295 ^^^ (x ^^^ y)) &&& d):Nat):Int)) / 2147483648=(((((4294967295 ^^^ x) &&& y) ||| ((4294967295 ^^^ (x ^^^ y)) &&& d)) / 2147483648:Nat):Int):=Z
 rw[e8,e7]
 have t1:(4294967295:Nat).testBit 31=true:=xm
 simp only[Nat.testBit_or,Nat.testBit_and,Nat.testBit_xor,t1,Il N,Il hy,Il Eu]
 by_cases c:x<y+b
 ·rw[if_pos c]at J ⊢
  by_cases p:2147483648<=x<;>by_cases q:2147483648<=y<;>by_cases r:2147483648<=d<;>simp[p,q,r]<;>omega
 ·rw[if_neg c]at J ⊢
  by_cases p:2147483648<=x<;>by_cases q:2147483648<=y<;>by_cases r:2147483648<=d<;>simp[p,q,r]<;>omega
end Go.AM.PL
namespace Go.AM.PL
def dgt(n:Nat):UInt8:=UInt8.ofNat (48+n % 10)
def dgz(n:Nat):zx:=if h:n=0 then[]else dgz (n / 10)++[dgt n]
termination_by n
decreasing_by omega
def pr(n:Nat):zx:=if n=0 then[48]else dgz n
theorem TS:dgz 0=[]:=by rw[dgz]; rfl
theorem z5f{n:Nat}(h:n≠0):dgz n=dgz (n / 10)++[dgt n]:=by rw[dgz,dif_neg h]
def rd(n:Nat):List Int:=if h:n=0 then[]else((48+n % 10:Nat):Int)::rd (n / 10)
termination_by n
decreasing_by omega
theorem W6:rd 0=[]:=by rw[rd]; rfl
theorem G9{n:Nat}(h:n≠0):rd n=((48+n % 10:Nat):Int)::rd (n / 10):=by rw[rd,dif_neg h]
def Q2:Nat->Nat->List Int
 | 0,_=>[]
 | k+1,n=>((48+n % 10:Nat):Int)::Q2 k (n / 10)
theorem Fk(k n:Nat):(Q2 k n).length=k:=by
 induction k generalizing n with
 | zero=>rfl
 | succ k ih=>simp[Q2,ih]
theorem z2L(k n:Nat):Q2 k (n % 10 ^ k)=Q2 k n:=by
 induction k generalizing n with
 | zero=>rfl
 | succ k ih =>
  simp only[Q2]
  have e1:n % 10 ^ (k+1) % 10=n % 10:=Nat.mod_mod_of_dvd _ ⟨10 ^ k,by rw[zF,zE]⟩
  have e2:n % 10 ^ (k+1) / 10=n / 10 % 10 ^ k:=by rw[zF,zE,Nat.mod_mul_right_div_self]
  rw[e1,e2,ih]
theorem z2J(k n:Nat)(h:n / 10 ^ k≠0):rd n=Q2 k n++rd (n / 10 ^ k):=by
 induction k generalizing n with
 | zero=>simp[Q2]
 | succ k ih =>
  have hn:n≠0:=by intro z; subst z; simp at h
  have e:n / 10 ^ (k+1)=n / 10 / 10 ^ k:=by rw[zF,zE,qQ]
  rw[e]at h ⊢
  rw[G9 hn,ih _ h]; rfl
theorem Lw(k n:Nat)(h:n / 10 ^ k=0):∃ z,Q2 k n=rd n++X z 48:=by
 induction k generalizing n with
 | zero=>simp at h; subst h; exact⟨0,by rw[W6]; rfl⟩
 | succ k ih =>
  have e:n / 10 ^ (k+1)=n / 10 / 10 ^ k:=by rw[zF,zE,qQ]
  rw[e]at h
  obtain⟨z,hz⟩:=ih _ h
  simp only[Q2]
  by_cases hn:n=0
  ·subst hn
   refine⟨z+1,?_⟩
   rw[hz]
   simp[W6,qU]
  ·exact⟨z,by rw[hz,G9 hn]; rfl⟩
def blk(n:Nat):List Int:=if h:n=0 then[]else Q2 9 (n % 1000000000)++blk (n / 1000000000)
termination_by n
decreasing_by omega
theorem QG:blk 0=[]:=by rw[blk]; rfl
theorem Km{n:Nat}(h:n≠0):blk n=Q2 9 (n % 1000000000)++blk (n / 1000000000):=by rw[blk,dif_neg h]
theorem Tw(n:Nat):∃ z,blk n=rd n++X z 48:=by
 induction n using zX with
 | _ n ih =>
  by_cases hn:n=0
  ·subst hn; exact⟨0,by rw[QG,W6]; rfl⟩
  ·rw[Km hn]
   have e:Q2 9 (n % 1000000000)=Q2 9 n:=z2L 9 n
   rw[e]
   by_cases h:n / 1000000000=0
   ·rw[h,QG,List.append_nil]
    exact Lw 9 n h
   ·obtain⟨z,hz⟩:=ih (n / 1000000000) (Z)
    refine⟨z,?_⟩
    rw[hz,<- List.append_assoc]
    congr 1
    exact(z2J 9 n h).symm
theorem TR(n:Nat):dgz n=ko (rd n).reverse:=by
 induction n using zX with
 | _ n ih =>
  by_cases hn:n=0
  ·subst hn; rw[TS,W6]; rfl
  ·rw[z5f hn,G9 hn,ih _ (Z)]
   simp only[List.reverse_cons,ko,List.map_append,List.map_cons,List.map_nil]
   congr 1
theorem za3{n:Nat}(h:n≠0):rd n≠[]:=by rw[G9 h]; simp
theorem z8C(n:Nat):∀ x,(rd n).getLast? = some x->x≠48:=by
 induction n using zX with
 | _ n ih =>
  intro x N
  by_cases hn:n=0
  ·subst hn; rw[W6]at N; cases N
  ·rw[G9 hn]at N
   by_cases M:n / 10=0
   ·rw[M,W6]at N
    simp at N; omega
   ·refine ih (n / 10) (Z) x ?_
    rw[<- N]
    cases hc:rd (n / 10)with
    | nil=>exact absurd hc (za3 M)
    | cons y l=>rw[List.getLast?_cons_cons]
end Go.AM.PL
namespace Go.AM.PL
theorem Ya(q a b c:Nat):q*(a*c+b)=(q*a)*c+q*b:=xy
theorem TT(a b:Nat):(a+1)*b=a*b+b:=xy
theorem zaW(a b c:Nat):(a+b)*c=a*c+b*c:=xy
theorem Eo{u2 u1 u0 v1 v2 q r:Nat}(hr:q*v1+r=u2*4294967296+u1)(h:q*v2<=r*4294967296+u0) :
  q*(v1*4294967296+v2)<=u2*18446744073709551616+u1*4294967296+u0:=by
 rw[Ya]
 generalize q*v1=x at *
 generalize q*v2=y at *
 omega
theorem z0b{u2 u1 u0 v1 v2 q r:Nat}(hr:q*v1+r=u2*4294967296+u1)(h:r*4294967296+u0<q*v2) :
  u2*18446744073709551616+u1*4294967296+u0<q*(v1*4294967296+v2):=by
 rw[Ya]
 generalize q*v1=x at *
 generalize q*v2=y at *
 grind
theorem z0c{oE zD q:Nat}(hV:0<zD)(h:oE<q*zD):oE / zD<q:=(zM hV).2 h
theorem II{u2 u1 u0 v1 v2:Nat}(hv:0<v1)(hu0:u0<4294967296):(u2*18446744073709551616+u1*4294967296+u0) / (v1*4294967296+v2)<=(u2*4294967296+u1) / v1:=by
 rw[zN hv]
 have h:=qV (u2*18446744073709551616+u1*4294967296+u0) (v1*4294967296+v2)
 generalize (u2*18446744073709551616+u1*4294967296+u0) / (v1*4294967296+v2)=q at *
 have e:=Ya q v1 v2 4294967296
 rw[e]at h; omega
theorem RA{u2 u1 u0 v1 v2:Nat}(hv:2147483648<=v1)(EG:v2<4294967296)(h:u2*18446744073709551616+u1*4294967296+u0<(v1*4294967296+v2+1)*4294967296) :
  (u2*4294967296+u1)<=v1*4294967296+v2/\(u2*4294967296+u1) / v1<=4294967297:=by
 have h1:u2*4294967296+u1<=v1*4294967296+v2:=Z
 refine⟨h1,?_⟩
 rw[Nat.div_le_iff_le_mul (Z)]
 omega
theorem MH{oE zD D U3 V2 zC zB q:Nat}(hU:oE=U3*D+zC)(hX:zC<D)(hV:zD=V2*D+zB)(hY:zB<D)(hVt:2147483648*4294967296<=V2)(hUV:oE<zD*4294967296)(hq:q=min (U3 / V2) 4294967295) :
  oE / zD<=q/\q<=oE / zD+1:=by
 have hD:0<D:=Z
 have hV2:0<V2:=Z
 have hVp:0<zD:=by rw[hV]; have:=Nat.mul_pos hV2 hD; omega
 constructor
 ·rw[hq,Nat.le_min]
  constructor
  ·rw[zN hV2]
   have h:=qV oE zD
   generalize oE / zD=z at *
   rw[hV,hU]at h
   have e:=Ya z V2 zB D
   rw[e]at h
   have M:(z*V2)*D<(U3+1)*D:=by 
    rw[TT]
    generalize z*V2*D=m at *
    generalize z*zB=m2 at *
    omega
   exact Nat.lt_succ_iff.1 (zU M)
  ·have:oE / zD<4294967296:=(zM hVp).2 (by rw[zE]; exact hUV)
   omega
 ·have h3:q<=U3 / V2:=Z
  have h4:q<=4294967295:=Z
  have h5:q*V2<=U3:=(zN hV2).1 h3
  cases q with
  | zero=>exact xB _
  | succ q =>
   have:q<=oE / zD:=by
    rw[zN hVp,hV,hU]
    have e:=Ya q V2 zB D
    have e2:=TT q V2
    have h6:(q*V2+V2)*D<=U3*D:=Y D (Z)
    have e3:=zaW (q*V2) V2 D
    have h7:q*zB<=4294967295*D:=qX (Z) (Z)
    have h8:4294967295*D<=V2*D:=Y D (Z)
    rw[e]; omega
   omega
end Go.AM.PL
namespace Go.AM.Lf
open PL
@[simp] theorem bj:zb (.int .u32)=(0:Int):=rfl
theorem F5(l:List Int)(x:Int):nth (l++[x]) ((l++[x]).length-1:Int) 0=x:=by
 rw[CM _ (qz)]; simp[nth]
theorem bE(a:List Int)(h:qx a)(R:a.length<=4000000000):(vV a).run=some (vN (nv a)):=by
 have key:(Xh a).run=some (vN (nv a)):=by
  unfold Xh
  refine X9 (λa=>qx a/\a.length<=4000000000) (λa=>a.length) (λa=>vN (nv a)) ?_ ⟨h,R⟩
  rintro s ⟨h1,M⟩
  rcases List.eq_nil_or_concat s with rfl | ⟨l,x,rfl⟩
  ·right; simp[sM,ZQ,gI]
  ·rw[List.concat_eq_append]at *
   have N:=F5 l x
   have hlen:(l++[x]).length=l.length+1:=qz
   have hw:qo (((l++[x]).length:Int)-1)=((l++[x]).length:Int)-1:=qv (Z) (Z)
   have hIs:(ZQ (l++[x])).run=some (x != 0):=by
    unfold ZQ
    rw[xi]
    ·simp only[hw,bj,N,xz]
     congr 1
     have:(((l++[x]).length:Int)==0)=false:=by simp; omega
     rw[this]; rfl
    ·intro _; rw[hw]; exact⟨Z,Z⟩
   unfold sM
   rw[zt hIs]
   by_cases Kx:x=0
   ·left
    subst Kx
    refine⟨l,?_,⟨(U7.1 h1).1,Z⟩,Z,by rw[YV]⟩
    have hc:jG (e:=.int .u32) 0 (((l++[(0:Int)]).length:Int)-1) (l++[0])=l:=by
     unfold jG; simp
    rw[hw,hc]
    simp only[bne_self_eq_false,Bool.not_false,UC]
    rw[Xp _ (Z) (Z) (Z),xz]
   ·right
    have I:(x != 0)=true:=by simpa using Kx
    rw[I]
    simp only[Bool.not_true,WA,xz]
    rw[CQ h1]
    intro y hy
    simp at hy; omega
 unfold vV
 rw[zt key,xz]
theorem Rl(a:List Int)(R:a.length<=4000000000):(ya a).run=some a:=by
 unfold ya
 rw[xi]
 ·cases a with
  | nil=>simp
  | cons x a=>simp only[List.length_cons]at R; simp(disch:=omega)
 ·rintro rfl r hr
  first
  | simpa[T.leads]using hr
  | (obtain⟨_,_,hr⟩:=hr; simpa[T.leads]using hr)
theorem tC(a:List Int)(h:qx a)(R:a.length<=4000000000):(iC a).run=some (vN (nv a)):=by
 unfold iC
 rw[zt (bE a h R),zt (Rl _ (zQ (vJ h) R)),xz]
theorem V9(n:Nat)(h:n<18446744073709551616):(iu (n:Int)).run=some (vN n):=by
 have e2:gK (jj .u64 (n:Int) 32)=((n / 4294967296:Nat):Int):=by rw[za6 (Z),Zc]; omega
 have e1:gK (n:Int)=((n % 4294967296:Nat):Int):=by rw[Zc]; omega
 have h1:qx [((n % 4294967296:Nat):Int),((n / 4294967296:Nat):Int)]:=by
  intro x N; simp only[xL,List.not_mem_nil,or_false]at N; rcases N with rfl | rfl<;>omega
 have M:=bE _ h1 (qz)
 have h3:nv [((n % 4294967296:Nat):Int),((n / 4294967296:Nat):Int)]=n:=by simp only[XU,z2k]; omega
 unfold iu
 rw[iQ _ (Z),e1,e2,zt M,h3,xz]
theorem JL(a b:List Int)(ha:qx a)(I:qx b)(la:a.length<=1000000000)(lb:b.length<=1000000000):(sJ a b).run=some (DU (nv a) (nv b)):=by
 unfold sJ
 rw[zt (bE a ha (Z)),zt (bE b I (Z))]
 have qa:=vJ ha
 have qb:=vJ I
 generalize nv a=A at *
 generalize nv b=hI at *
 by_cases R:(vN A).length=(vN hI).length
 ·rw[R,bne_self_eq_false,WA]
  have key:=TH (r:=rF (vN A) (vN hI)) (vN A) (vN hI) (wH A) (wH hI) R (λi hi => ?_) ?_
  ·rw[<- R,qv (Z) (Z)]
   unfold YT
   rw[zt key,ji,ji]
   unfold DU
   by_cases p:A<hI
   ·simp[p]
   ·by_cases q:hI<A<;>simp[p,q]
  ·have e:qo ((i:Int)-1)=(i:Int)-1:=qv (Z) (Z)
   unfold rF
   have Kv:i<(vN hI).length:=Z
   have x1:=iG (wH A) i
   have x2:=iG (wH hI) i
   rcases Nat.lt_trichotomy (lm (vN A) i) (lm (vN hI) i)with c | c | c
   ·have c2:¬ (lm (vN A) i=lm (vN hI) i):=Z
    simp(disch:=omega) [e,x1,x2,c,c2,hi,Kv]<;>omega
   ·simp(disch:=omega) [e,x1,x2,c,hi,Kv]
   ·have c2:¬ (lm (vN A) i=lm (vN hI) i):=Z
    have c3:¬ (lm (vN A) i<lm (vN hI) i):=Z
    simp(disch:=omega) [e,x1,x2,c,c2,c3,hi,Kv]<;>omega
  ·simp[rF]
 ·rw[vG (by simp; omega)]
  unfold DU
  by_cases c:(vN A).length<(vN hI).length
  ·have:=Jc c
   simp[c,this]
  ·have M:=Jc (show(vN hI).length<(vN A).length by omega)
   have h3:¬ A<hI:=Z
   simp[c,M,h3]
theorem z1g(n:Nat):gK (n:Int)=((n % 4294967296:Nat):Int):=by rfl
theorem EA(n:Nat):jj .u64 (n:Int) 32=((n / 4294967296:Nat):Int):=by rw[za6 (Z)]; omega
theorem i1(i:Nat)(h:i<=4000000000):qo ((i:Int)+1)=((i+1:Nat):Int):=by rw[qv (Z) (Z)]; omega
theorem im1(i:Nat)(h:i<=4000000000):qo (((i+1:Nat):Int)-1)=(i:Int):=by rw[qv (Z) (Z)]; omega
theorem Ji{x y:Nat}(N:x<4294967296)(hy:y<4294967296):x*y<=18446744065119617025:=qX (show x<=4294967295 by omega) (show y<=4294967295 by omega)
theorem mb(xs:List Int)(i:Nat)(x:Int)(j:Nat)(h:i≠j):lm (xs.set i x) j=lm xs j:=by
 by_cases hi:i<xs.length
 ·rw[Jd hi,if_neg h]
 ·rw[List.set_eq_of_length_le (Z)]
theorem Kz{a:List Int}{i:Nat}(h:i<a.length):nv (a.drop i)=lm a i+4294967296*nv (a.drop (i+1)):=F6 h
theorem set_drop{a:List Int}{i:Nat}(x:Int)(h:i<a.length):nv ((a.set i x).drop i)=x.toNat+4294967296*nv (a.drop (i+1)):=by
 rw[Kz (xy),cv,Jd h,if_pos rfl]
theorem Rp{hi lo y:Nat}(h0:hi<y)(h1:lo<4294967296)(M:y<4294967296) :
  (eG (hi:Int) (lo:Int) (y:Int)).run=some ((((hi*4294967296+lo) / y:Nat):Int),(((hi*4294967296+lo) % y:Nat):Int)):=by
 have e1:=z0O (x:=(hi:Int)) (y:=(lo:Int)) (Z) (Z) (Z) (Z)
 have ey:wh (y:Int)=y:=gL (Z) (Z)
 have eh:wh (hi:Int)=hi:=gL (Z) (Z)
 have el:wh (lo:Int)=lo:=gL (Z) (Z)
 have hq:(hi*4294967296+lo) / y<4294967296:=by
  rw[zM (Z)]
  grind
 have hr:(hi*4294967296+lo) % y<y:=zV _ (Z)
 have e2:(hi:Int)*4294967296+(lo:Int)=((hi*4294967296+lo:Nat):Int):=Z
 have e3:xI ((hi*4294967296+lo:Nat):Int) (y:Int)=(((hi*4294967296+lo) / y:Nat):Int):=by rw[Xx (Z)]; rfl
 have e4:xJ ((hi*4294967296+lo:Nat):Int) (y:Int)=(((hi*4294967296+lo) % y:Nat):Int):=by rw[Xy (Z)]; rfl
 unfold eG
 rw[j6 (xy)]
 simp only[ey,eh,el,e1,e2,e3,e4]
 rw[iQ _ (Z),sT _ (Z),sT _ (Z),xz,ly (Z),K4 hq,K4 (Z)]
theorem LH{A Q r y l q:Nat}(h:A=Q*y+r)(hq:q=(r*4294967296+l) / y):l+4294967296*A=(q+4294967296*Q)*y+(r*4294967296+l) % y:=by
 have:=qC (r*4294967296+l) y
 grind
theorem Wy(a:List Int)(ha:qx a)(la:a.length<=1000000000)(y:Nat)(h0:0<y)(h1:y<4294967296):(pe a (y:Int)).run=some (vN (nv a / y),((nv a % y:Nat):Int)):=by
 have loop:∃ r:Int×List Int,(Uj a (y:Int) (0,(a.length:Int)-1,X a.length 0)).run=some r/\∃ m:Nat,r.1=(m:Int)/\m<y/\qx r.2/\r.2.length=a.length/\nv a=nv r.2*y+m:=by
  refine T.ct (λs:Int×Int×List Int=>∃ (m i:Nat),s.1=(m:Int)/\s.2.1=(i:Int)-1/\m<y/\i<=a.length/\qx s.2.2/\s.2.2.length=a.length/\nv (a.drop i)=nv (s.2.2.drop i)*y+m)
   (λs=>(s.2.1+1).toNat) _ ?_ ⟨0,a.length,rfl,rfl,h0,zJ _,vM _,qz,qz⟩
  rintro⟨_,_,xs⟩ ⟨m,i,rfl,rfl,hm,hi,R,hn,hv⟩
  simp only at R hn hv ⊢
  cases i with
  | zero =>
   right
   refine⟨((m:Int),xs),?_,m,rfl,hm,R,hn,by simpa using hv⟩
   unfold oD
   simp
  | succ i =>
   left
   have N:=lr ha i
   have e1:((i+1:Nat):Int)-1=(i:Int):=Z
   have J:=Rp hm N h1
   have hq:(m*4294967296+lm a i) / y<4294967296:=by
    rw[zM (Z)]
    grind
   have ei:qo ((i:Int)-1)=(i:Int)-1:=qv (Z) (Z)
   refine⟨((((m*4294967296+lm a i) % y:Nat):Int),(i:Int)-1,xs.set i (((m*4294967296+lm a i) / y:Nat):Int)),?_,⟨_,i,rfl,rfl,zV _ h0,Z,jV R _ hq,by simpa using hn,?_⟩,qz⟩
   ·unfold oD
    simp only[e1,bj,iG ha,Fp,ei]
    rw[if_pos (qz),vK _ (Z) (Z),zt J]
    simp(disch:=omega) [hn]
   ·simp only
    rw[Kz (Z),set_drop _ (Z),zA]
    exact LH hv rfl
 obtain⟨⟨_,xs⟩,hr,m,rfl,hm,R,hn,hv⟩:=loop
 simp only at R hn hv
 unfold pe
 rw[qv (Z) (Z)]
 simp only[zA,zW]
 rw[T.run_mk _ (Z) (Z) (Z) (Z),b9 _ rfl rfl rfl,xi rfl,zt hr]
 simp only[Nat.zero_add,qF,List.take_length]
 have e1:nv a / y=nv xs:=by rw[hv,zE,Nat.mul_add_div h0,qI hm,qH]
 have e2:nv a % y=m:=by rw[hv,zE,Nat.mul_add_mod,qS hm]
 rw[xi rfl,zt (bE xs R (Z)),xz,e1,e2]
theorem LD{v s:Nat}(hv:v<4294967296)(hs:s<=32):Z7 .u64 (v:Int) (s:Int)=((v*2 ^ s:Nat):Int):=by
 have h1:2 ^ s<=2 ^ 32:=zZ (Z) hs
 have M:v*2 ^ s<=4294967295*4294967296:=qX (Z) h1
 have e:min (s:Int).toNat 64=s:=by simp; omega
 show wh ((v:Int)*2 ^ (min (s:Int).toNat 64))=_
 rw[e]
 have e2:(v:Int)*2 ^ s=((v*2 ^ s:Nat):Int):=qz
 rw[e2,ly (Z)]
theorem zcX{v s:Nat}(hs:s<=64):jj .u64 (v:Int) (s:Int)=((v / 2 ^ s:Nat):Int):=by
 show Int.fdiv (v:Int) (2 ^ (min (s:Int).toNat 64))=_
 grind
theorem zcK{h m s:Nat}(hh:h<2 ^ s):h ||| m*2 ^ s=h+m*2 ^ s:=by rw[Nat.or_comm,Ln m h s hh,qG]
theorem F4(v s:Nat)(hs:s<=32):v*2 ^ s % 4294967296=(v % 2 ^ (32-s))*2 ^ s:=by
 have e:(4294967296:Nat)=2 ^ (32-s)*2 ^ s:=by rw[<- qA]; rw[show 32-s+s=32 by omega]
 rw[e,xH]
theorem RZ{h v s:Nat}(hh:h<2 ^ s)(hv:v<4294967296)(hs:s<32) :
  H9 .u32 (h:Int) (gK ((v*2 ^ s:Nat):Int))=((h+v*2 ^ s % 4294967296:Nat):Int)/\h+v*2 ^ s % 4294967296<4294967296/\v*2 ^ s / 4294967296<2 ^ s:=by
 have e1:=F4 v s (Z)
 have e2:(v % 2 ^ (32-s))*2 ^ s+2 ^ s<=4294967296:=by
  have:v % 2 ^ (32-s)+1<=2 ^ (32-s):=zV _ (zT (Z))
  have:=Y (2 ^ s) this
  rw[<- qA,show 32-s+s=32 by omega]at this
  grind
 refine⟨?_,xy,?_⟩
 ·rw[z1g,KE (Z) (Z),e1,zcK hh]
 ·rw[zM (Z),zE]
  exact Nat.mul_lt_mul_of_pos_left hv (zT (Z))
theorem EM{zC h P zD v t A:Nat}(hv:zC+h*P=zD*t)(hA:A=v*t):zC+P*(h+A % 4294967296)+A / 4294967296*(P*4294967296)=(zD+P*v)*t:=by
 have e:A=A % 4294967296+4294967296*(A / 4294967296):=Z
 grind
theorem HR(a:List Int)(ha:qx a)(la:a.length<=1000000000)(s n:Nat)(hs:s<32)(Yi:a.length<=n)(Cp:n<=a.length+1)(GV:nv a*2 ^ s<4294967296 ^ n) :
  ∃ r,(JN (s:Int) (n:Int) a (a.length:Int) (0,X n 0)).run=some r/\qx r/\r.length=n/\nv r=nv a*2 ^ s:=by
 refine T.ct (λz:Int×List Int=>∃ i h:Nat,z.1=(i:Int)/\i<=a.length/\qx z.2/\z.2.length=n/\h<2 ^ s/\(i<n->lm z.2 i=h)/\nv (z.2.take i)+h*4294967296 ^ i=nv (a.take i)*2 ^ s)
  (λz=>a.length-z.1.toNat) _ ?_ ⟨0,0,rfl,Z,vM _,qz,zT (Z),λ_ => ?_,qz⟩
 ·rintro⟨_,xs⟩ ⟨i,h,rfl,hi,R,hn,hh,hli,hv⟩
  simp only at R hn hli hv ⊢
  by_cases wL:i<a.length
  ·left
   have N:=lr ha i
   obtain⟨s1,s2,s3⟩:=RZ hh N hs
   have I:wh (lm a i:Int)=lm a i:=ly (Z)
   have hlx:=hli (Z)
   have hp:2 ^ s<=2 ^ 31:=zZ (Z) (Z)
   have e2:gK ((lm a i*2 ^ s / 4294967296:Nat):Int)=((lm a i*2 ^ s / 4294967296:Nat):Int):=K4 (Z)
   by_cases J6:i+1<n
   all_goals have zfO:((i:Int)+1<(n:Int))↔(i+1<n):=Z
   ·refine⟨(((i+1:Nat):Int),(xs.set i ((h+lm a i*2 ^ s % 4294967296:Nat):Int)).set (i+1) ((lm a i*2 ^ s / 4294967296:Nat):Int)),?_,
     ⟨i+1,lm a i*2 ^ s / 4294967296,rfl,Z,jV (jV R _ s2) _ (Z),by simpa using hn,s3,λ_ => ?_,?_⟩,by simp; omega⟩
    ·unfold nd
     simp only[bj,iG ha,zA,Nat.zero_add,oF R,I,LD N (show s<=32 by omega),hlx,s1,i1 i (Z),EA,e2]
     simp(disch:=omega) [wL,hn,J6,zfO]
    ·simp only
     rw[Jd (by simp; omega),if_pos rfl,zA]
    ·simp only
     rw[JY _ _ _ _ (zJ _),sO _ (Z),ve,zA,zF]
     exact EM hv rfl
   ·refine⟨(((i+1:Nat):Int),xs.set i ((h+lm a i*2 ^ s % 4294967296:Nat):Int)),?_,
     ⟨i+1,lm a i*2 ^ s / 4294967296,rfl,Z,jV R _ s2,by simpa using hn,s3,λ_=>Z,?_⟩,by simp; omega⟩
    ·unfold nd
     simp only[bj,iG ha,zA,Nat.zero_add,oF R,I,LD N (show s<=32 by omega),hlx,s1,i1 i (Z),EA,e2]
     simp(disch:=omega) [wL,hn,J6,zfO]
    ·simp only
     rw[sO _ (Z),ve,zA,zF]
     exact EM hv rfl
  ·right
   have:i=a.length:=Z
   subst this
   refine⟨xs,?_,R,hn,?_⟩
   ·unfold nd
    simp
   ·rw[List.take_length]at hv
    by_cases q:n=a.length
    ·rw[gH (Z)]at hv
     rcases qB h with z | z
     ·grind
     ·have:=Y (4294967296 ^ a.length) z
      grind
    ·have jX:n=a.length+1:=Z
     have:=ve xs a.length
     rw[gH (Z),hli (Z),zE]at this
     omega
 ·show lm (X n 0) 0=0
  unfold lm nth
  cases n<;>simp[qU]
theorem CG(a:List Int)(ha:qx a)(la:a.length<=1000000000)(s n:Nat)(hs:s<32)(Yi:a.length<=n)(Cp:n<=a.length+1)(GV:nv a*2 ^ s<4294967296 ^ n) :
  ∃ r,(Uh a (s:Int) (n:Int)).run=some r/\qx r/\r.length=n/\nv r=nv a*2 ^ s:=by
 obtain⟨r,h1,M,h3,h4⟩:=HR a ha la s n hs Yi Cp GV
 refine⟨r,?_,M,h3,h4⟩
 unfold Uh
 simp
 rw[T.run_mk _ (Z) (Z) (Z) (Z),b9 _ rfl rfl rfl,xi rfl,zt h1]
 simp
theorem Xe(a:List Int)(ha:qx a)(la:a.length<=1000000000)(s n:Nat)(hs:s<32)(Yi:a.length<=n)(Cp:n<=a.length+1)(GV:nv a*2 ^ s<4294967296 ^ n) :
  ∃ r,(rH a (s:Int) (n:Int)).run=some r/\qx r/\r.length=n/\nv r=nv a*2 ^ s:=by
 obtain⟨r,h1,M,h3,h4⟩:=HR a ha la s n hs Yi Cp GV
 refine⟨r,?_,M,h3,h4⟩
 have GG:(Ww (s:Int) (n:Int) a (a.length:Int) (0,X n 0)).run=some r:=h1
 unfold rH
 simp
 rw[T.run_mk _ (Z) (Z) (Z) (Z),b9 _ rfl rfl rfl,xi rfl,zt GG]
 simp
theorem zkG{a b s:Nat}(hs:s<=32)(ha:a<2 ^ (32-s)):a ||| b*2 ^ (32-s)=a+b*2 ^ (32-s):=by rw[Nat.or_comm,Ln b a (32-s) ha,qG]
theorem fk(s:Nat)(h:s<=32):(4294967296:Nat)=2 ^ (32-s)*2 ^ s:=by rw[<- qA,show 32-s+s=32 by omega]
theorem zkP{v s:Nat}(hs:s<=32):v*4294967296 / 2 ^ s=v*2 ^ (32-s):=by
 rw[fk s hs,<- qJ,Nat.mul_div_cancel _ (zT (Z))]
theorem zcY{v s:Nat}(hs:s<=32):v*2 ^ (32-s) / 4294967296=v / 2 ^ s:=by
 rw[fk s hs,zE v,Nat.mul_div_mul_left _ _ (zT (Z))]
theorem zcZ{v s:Nat}(hs:s<=32):v*2 ^ (32-s) % 4294967296=(v % 2 ^ s)*2 ^ (32-s):=by
 rw[fk s hs,zE (2 ^ (32-s)),xH]
theorem z8L{zD v P s C:Nat}(hs:s<=32)(hC:C=zD / 2 ^ s):C+P*((v % 2 ^ s)*2 ^ (32-s))+P*4294967296*(v / 2 ^ s)=(zD+P*4294967296*v) / 2 ^ s:=by
 have hp:0<2 ^ s:=zT (Z)
 have e1:zD+P*4294967296*v=zD+(P*2 ^ (32-s)*v)*2 ^ s:=by
  have:P*4294967296*v=P*(2 ^ (32-s)*2 ^ s)*v:=by rw[<- fk s hs]
  grind
 rw[e1,Nat.add_mul_div_right _ _ hp,hC]
 have e2:v=v % 2 ^ s+2 ^ s*(v / 2 ^ s):=by have:=qC v (2 ^ s); omega
 have e3:P*4294967296*(v / 2 ^ s)=P*(2 ^ (32-s)*2 ^ s)*(v / 2 ^ s):=by rw[<- fk s hs]
 grind
theorem z2W(x:List Int)(N:qx x)(lx:x.length<=4000000000)(s:Nat)(hs:s<32) :
  ∃ r,(Ue (s:Int) x (x.length:Int) (0,X x.length 0)).run=some r/\qx r/\r.length=x.length/\nv r=nv x / 2 ^ s:=by
 refine T.ct (λz:Int×List Int=>∃ i:Nat,z.1=(i:Int)/\i<=x.length/\qx z.2/\z.2.length=x.length/\(∀ j,i<=j->lm z.2 j=0)/\(∀ j,i=j+1->lm z.2 j=lm x j / 2 ^ s)/\nv (z.2.take i)=nv (x.take i) / 2 ^ s)
  (λz=>x.length-z.1.toNat) _ ?_ ⟨0,rfl,Z,vM _,qz,λj _ => ?_,λj h=>Z,qz⟩
 ·rintro⟨_,xs⟩ ⟨i,rfl,hi,R,hn,hz,hp,hv⟩
  simp only at R hn hz hp hv ⊢
  by_cases wL:i<x.length
  ·left
   have FU:=lr N i
   have I:wh (lm x i:Int)=lm x i:=ly (Z)
   have h32:(32:Int)=((32:Nat):Int):=rfl
   have w1:jj .u64 (Z7 .u64 (lm x i:Int) 32) (s:Int)=((lm x i*2 ^ (32-s):Nat):Int):=by
    rw[h32,LD FU (Z),zcX (Z),<- zkP (Z)]
   have hq:lm x i / 2 ^ s<4294967296:=zG (qK _ _) FU
   have w2:gK (jj .u64 ((lm x i*2 ^ (32-s):Nat):Int) 32)=((lm x i / 2 ^ s:Nat):Int):=by rw[EA,zcY (Z),K4 hq]
   have w3:H9 .u32 (wi xs i 0) ((lm x i / 2 ^ s:Nat):Int)=((lm x i / 2 ^ s:Nat):Int):=by
    rw[oF R,hz i (zJ _),KE (Z) hq,Nat.zero_or]
   cases i with
   | zero =>
    refine⟨(1,xs.set 0 ((lm x 0 / 2 ^ s:Nat):Int)),?_,⟨1,rfl,Z,jV R _ hq,by simpa using hn,λj h => ?_,λj h => ?_,?_⟩,by simp; omega⟩
    ·have w3':=w3
     simp only[Int.natCast_zero]at *
     have Kx:nth x 0 0=(lm x 0:Int):=iG N 0
     unfold iB
     simp only[bj,Kx,zA,Nat.zero_add,I,w1,w2,w3]
     have zp7:H9 .u32 (wi xs (Int.toNat 0) 0) ((lm x 0 / 2 ^ s:Nat):Int)=((lm x 0 / 2 ^ s:Nat):Int):=w3
     generalize lm x 0 / 2 ^ s=q at *
     simp only[zp7]
     simp(disch:=omega) [wL,hn]
    ·rw[mb _ _ _ _ (Z)]; exact hz j (Z)
    ·have:j=0:=Z
     subst this
     rw[Jd (Z),if_pos rfl,zA]
    ·simp only
     rw[sO _ (Z),ve]; simp only[zA,List.take_zero,z2k,Nat.pow_zero,Nat.one_mul,Nat.zero_add]
   | succ i =>
    have Dq:=hp i rfl
    have znA:=lr N i
    have hq2:lm xs i<2 ^ (32-s):=by
     rw[Dq,zM (zT (Z)),<- fk s (Z)]; exact znA
    have hq3:lm x (i+1)*2 ^ (32-s) % 4294967296=(lm x (i+1) % 2 ^ s)*2 ^ (32-s):=zcZ (Z)
    have hq4:lm xs i+(lm x (i+1) % 2 ^ s)*2 ^ (32-s)<4294967296:=by
     have h1:lm x (i+1) % 2 ^ s+1<=2 ^ s:=zV _ (zT (Z))
     have M:=Y (2 ^ (32-s)) h1
     rw[zE (2 ^ s),<- fk s (Z),Nat.add_mul]at M
     omega
    have hxi:=lr R i
    have w4:∀ ys:List Int,qx ys->lm ys i=lm xs i->H9 .u32 (wi ys i 0) (gK ((lm x (i+1)*2 ^ (32-s):Nat):Int))=((lm xs i+(lm x (i+1) % 2 ^ s)*2 ^ (32-s):Nat):Int):=by
     intro ys hys he
     rw[oF hys,he,z1g,KE hxi (zV _ (Z)),hq3,zkG (Z) hq2]
    have w5:=w4 _ (jV R (i+1) hq) (mb _ _ _ _ (Z))
    refine⟨(((i+1+1:Nat):Int),(xs.set (i+1) ((lm x (i+1) / 2 ^ s:Nat):Int)).set i ((lm xs i+(lm x (i+1) % 2 ^ s)*2 ^ (32-s):Nat):Int)),?_,
     ⟨i+1+1,rfl,Z,jV (jV R _ hq) _ hq4,by simpa using hn,λj h => ?_,λj h => ?_,?_⟩,by simp; omega⟩
    ·unfold iB
     simp only[bj,iG N,zA,Nat.zero_add,I,w1,w2,w3,i1 (i+1) (Z),im1 i (Z),w5]
     rw[vG (by simp; omega)]
     have Wp:decide ((0:Int)<((i+1:Nat):Int))=true:=qz
     generalize hG:(xs.set (i+1) ((lm x (i+1) / 2 ^ s:Nat):Int)).set i ((lm xs i+(lm x (i+1) % 2 ^ s)*2 ^ (32-s):Nat):Int)=G
     have hGl:G.length=xs.length:=by rw[<- hG]; simp
     rw[vK _ (Z) (Z),iQ _ (Z),iQ _ (Z),vK _ (Z) (Z),ft _ rfl (Z),iQ _ (Z),vK _ (Z) (Z),ft _ rfl (Z),vG Wp,
      vK _ (Z) (Z),ft _ (qz) (by simp; omega),vK _ (Z) (Z),ft _ (qz) (by simp; omega),b9 _ (Z) rfl (Z),yU _ (Z),xz]
    ·rw[mb _ _ _ _ (Z),mb _ _ _ _ (Z)]; exact hz j (Z)
    ·have:j=i+1:=Z
     subst this
     rw[mb _ _ _ _ (Z),Jd (Z),if_pos rfl,zA]
    ·simp only
     rw[ve,mb _ _ _ _ (Z),Jd (Z),if_pos rfl,zA,sO _ (by simp; omega),JY _ _ _ _ (Z),zA,ve,zF]
     have EG:=hv
     rw[ve]at EG
     have e:nv (xs.take i)+4294967296 ^ i*(lm xs i+lm x (i+1) % 2 ^ s*2 ^ (32-s))=(nv (xs.take i)+4294967296 ^ i*lm xs i)+4294967296 ^ i*(lm x (i+1) % 2 ^ s*2 ^ (32-s)):=by rw[qO]; omega
     rw[e]
     exact z8L (Z) EG
  ·right
   have:i=x.length:=Z
   subst this
   refine⟨xs,?_,R,hn,?_⟩
   ·unfold iB
    simp
   ·grind
 ·show lm (X x.length 0) j=0
  unfold lm nth
  grind
theorem z6g{A k:Nat}(h:(vN A).length<=k):A<4294967296 ^ k:=uD.1 h
theorem z2I(k:Nat):(4294967296:Nat) ^ (k / 32)*2 ^ (k % 32)=2 ^ k:=by
 have:(4294967296:Nat)=2 ^ 32:=xm
 rw[this,<- Nat.pow_mul,<- qA]; congr 1; omega
theorem GL(a:List Int)(ha:qx a)(la:a.length<=1000000000)(k:Nat)(hk:k<=4096)(h0:0<k):(ma a (-(k:Int))).run=some (vN (nv a / 2 ^ k)):=by
 have qa:=vJ ha
 unfold ma
 rw[zt (bE a ha (Z))]
 generalize nv a=A at *
 have e1:V1 (l8 (-(k:Int)) (-4096)) 4096 = -(k:Int):=by unfold V1 l8; repeat' split<;>omega
 have e2:qo (0 - -(k:Int))=(k:Int):=by rw[qv (Z) (Z)]; omega
 have e3:qo (xI (k:Int) 32)=((k / 32:Nat):Int):=by rw[Xx (Z),qv (Z) (Z)]; omega
 have e4:wh (xJ (k:Int) 32)=((k % 32:Nat):Int):=by rw[Xy (Z),gL (Z) (Z)]; omega
 simp only[e1,e2,e3,e4]
 rw[vG (xy),sT _ (Z)]
 have N:=wH A
 by_cases c:(vN A).length<=k / 32
 ·rw[vG (by simp; omega),xz]
  have h1:=z6g c
  have M:=z2I k
  have h3:4294967296 ^ (k / 32)<=2 ^ k:=by rw[<- M]; exact Nat.le_mul_of_pos_right _ (zT (Z))
  rw[qI (Z),gI]
 ·rw[j6 (by simp; omega),sT _ (Z)]
  have e5:qo (((vN A).length:Int)-((k / 32:Nat):Int))=(((vN A).length-k / 32:Nat):Int):=by rw[qv (Z) (Z)]; omega
  have e6:jG (e:=.int .u32) ((k / 32:Nat):Int) ((vN A).length:Int) (vN A)=(vN A).drop (k / 32):=by unfold jG; simp only[zA,List.take_length]
  obtain⟨r,g1,g2,g3,g4⟩:=z2W ((vN A).drop (k / 32)) (rD N _) (by simp; omega) (k % 32) (zV _ (Z))
  have hlen:((vN A).drop (k / 32)).length=(vN A).length-k / 32:=List.length_drop
  rw[hlen]at g1
  simp only[e5,e6,zA,zW,hlen]
  rw[T.run_mk _ (Z) (Z) (Z) (Z),Xp _ (Z) (Z) (Z),b9 _ rfl rfl rfl,xi rfl,zt g1]
  simp only[Nat.zero_add,qF,List.take_length]
  rw[xi rfl,zt (bE r g2 (Z)),xz,g4]
  have h1:=ng (vN A) (k / 32) (Z)
  rw[ji]at h1
  have M:=bV N (k / 32)
  have h3:A / 4294967296 ^ (k / 32)=nv ((vN A).drop (k / 32)):=by
   refine(congrArg (· / 4294967296 ^ (k / 32)) h1).trans ?_
   rw[Nat.add_mul_div_left _ _ (Fj _),qI M,Nat.zero_add]
  rw[<- h3,qQ,z2I]
theorem CP(k:Nat)(l:List Int):nv (X k 0++l)=4294967296 ^ k*nv l:=by rw[pg]; simp
theorem GM(a:List Int)(ha:qx a)(la:a.length<=1000000000)(k:Nat)(hk:k<=4096):(ma a (k:Int)).run=some (vN (nv a*2 ^ k)):=by
 have qa:=vJ ha
 unfold ma
 rw[zt (bE a ha (Z))]
 generalize nv a=A at *
 have e1:V1 (l8 (k:Int) (-4096)) 4096=(k:Int):=by unfold V1 l8; repeat' split<;>omega
 have e3:qo (xI (k:Int) 32)=((k / 32:Nat):Int):=by rw[Xx (Z),qv (Z) (Z)]; omega
 have e4:wh (xJ (k:Int) 32)=((k % 32:Nat):Int):=by rw[Xy (Z),gL (Z) (Z)]; omega
 have N:=wH A
 have e5:qo ((vN A).length+1:Int)=(((vN A).length+1:Nat):Int):=i1 _ (Z)
 have e6:qo (qo (((k / 32:Nat):Int)+(vN A).length)+1)=((k / 32+(vN A).length+1:Nat):Int):=by rw[qv (x:=((k / 32:Nat):Int)+(vN A).length) (Z) (Z),qv (Z) (Z)]; omega
 have GV:nv (vN A)*2 ^ (k % 32)<4294967296 ^ ((vN A).length+1):=by
  have h1:=YW N
  have M:2 ^ (k % 32)<=2 ^ 32:=zZ (Z) (Z)
  exact qY h1 M (Z)
 obtain⟨r,g1,g2,g3,g4⟩:=CG (vN A) N (Z) (k % 32) ((vN A).length+1) (zV _ (Z)) (Z) (Z) GV
 simp only[e1,e3,e4,e5,e6]
 rw[j6 (qz),sT _ (Z),T.run_mk _ (Z) (Z) (Z) (Z),Xp _ (Z) (by simp; omega) (qz),sT _ (Z),zt g1]
 simp only[zA,Nat.zero_add,zW,qF]
 rw[z8I _ rfl (Z),Gg]
 have ec:((yn (k / 32) (k / 32+(vN A).length+1-k / 32) (X (k / 32+(vN A).length+1) (0:Int)) r))=X (k / 32) 0++r:=by
  unfold yn
  rw[List.take_replicate,List.drop_replicate,zI (Z)]
  rw[show k / 32+(vN A).length+1-(k / 32+min (k / 32+(vN A).length+1-k / 32) r.length)=0 by omega]
  grind
 rw[ec,zI (by simp; omega)]
 rw[zt (bE _ (U7.2 ⟨vM _,g2⟩) (by simp; omega)),xz,CP,g4,ji]
 rw[<- z2I k]; grind
theorem Rz{u2 u1 u0 v1 v2:Nat}(M:u2<4294967296)(h1:u1<4294967296)(h0:u0<4294967296)(hv1:v1<4294967296)(EG:v2<4294967296)(hn:2147483648<=v1)
  (ht:u2*18446744073709551616+u1*4294967296+u0<(v1*4294967296+v2+1)*4294967296) :
  (pc (u2:Int) (u1:Int) (u0:Int) (v1:Int) (v2:Int)).run=some ((min ((u2*18446744073709551616+u1*4294967296+u0) / (v1*4294967296+v2)) 4294967295:Nat):Int):=by
 obtain⟨t1,t2⟩:=RA hn EG ht
 have ti:=II (u2:=u2) (u1:=u1) (u0:=u0) (v1:=v1) (v2:=v2) (Z) h0
 obtain⟨Q,hQ⟩:∃ Q,(u2*18446744073709551616+u1*4294967296+u0) / (v1*4294967296+v2)=Q:=⟨_,rfl⟩
 rw[hQ]at ti ⊢
 have hV:0<v1*4294967296+v2:=Z
 have e1:=z0O (x:=(u2:Int)) (y:=(u1:Int)) (Z) (Z) (Z) (Z)
 have e2:(u2:Int)*4294967296+(u1:Int)=((u2*4294967296+u1:Nat):Int):=Z
 have w1:wh (u1:Int)=u1:=ly (Z)
 have w2:wh (u2:Int)=u2:=ly (Z)
 have w0:wh (u0:Int)=u0:=ly (Z)
 have x1:wh (v1:Int)=v1:=ly (Z)
 have x2:wh (v2:Int)=v2:=ly (Z)
 have e3:xI ((u2*4294967296+u1:Nat):Int) (v1:Int)=(((u2*4294967296+u1) / v1:Nat):Int):=by rw[Xx (Z)]; rfl
 have e4:xJ ((u2*4294967296+u1:Nat):Int) (v1:Int)=(((u2*4294967296+u1) % v1:Nat):Int):=by rw[Xy (Z)]; rfl
 have hm:(u2*4294967296+u1) % v1<v1:=zV _ (Z)
 have hdm:=qC (u2*4294967296+u1) v1
 rw[zE]at hdm
 have loop:∃ r:Int,(Ug (u0:Int) (v1:Int) (v2:Int) ((((u2*4294967296+u1) / v1:Nat):Int),(((u2*4294967296+u1) % v1:Nat):Int))).run=some r/\r=((min Q 4294967295:Nat):Int):=by
  refine T.ct (λs:Int×Int=>∃ q r:Nat,s.1=(q:Int)/\s.2=(r:Int)/\q<=4294967297/\r<4294967296/\q*v1+r=u2*4294967296+u1/\min Q 4294967295<=q)
   (λs=>s.1.toNat) _ ?_ ⟨_,_,rfl,rfl,t2,Z,hdm,Z⟩
  rintro⟨_,_⟩ ⟨q,r,rfl,rfl,hq,hr,hqr,zbC⟩
  have e5:=z0O (x:=(r:Int)) (y:=(u0:Int)) (Z) (Z) (Z) (Z)
  have es:jj .u64 (q:Int) 32=((q / 4294967296:Nat):Int):=EA q
  by_cases hbig:4294967296<=q\/r*4294967296+u0<q*v2
  ·-- too many
   have hgt:min Q 4294967295<q:=by
    rcases hbig with h | h
    ·omega
    ·have:=z0c hV (z0b (u2:=u2) (u1:=u1) (u0:=u0) (v1:=v1) (v2:=v2) hqr h)
     omega
   have ec:((jj .u64 (q:Int) 32 != 0)||decide (H9 .u64 (Z7 .u64 (r:Int) 32) (u0:Int)<wh ((q:Int)*(v2:Int))))=true:=by
    rw[es,e5]
    by_cases h:4294967296<=q
    ·grind
    ·have hh:r*4294967296+u0<q*v2:=hbig.resolve_left h
     have hm2:=Ji (x:=q) (y:=v2) (Nat.lt_of_not_le h) EG
     have e6:(q:Int)*(v2:Int)=((q*v2:Nat):Int):=qz
     rw[e6,ly (zG hm2 (xm))]
     grind
   have eq1:wh ((q:Int)-1)=((q-1:Nat):Int):=by rw[gL (Z) (Z)]; omega
   have er1:wh ((r:Int)+(v1:Int))=((r+v1:Nat):Int):=by rw[gL (Z) (Z)]; omega
   have hq1:(q-1)*v1+(r+v1)=u2*4294967296+u1:=by
    obtain⟨p,rfl⟩:∃ p,q=p+1:=⟨q-1,Z⟩
    grind
   by_cases hover:4294967296<=r+v1
   ·right
    refine⟨((q-1:Nat):Int),?_,?_⟩
    ·unfold iD
     simp only[w0,x1,x2,eq1,er1]
     rw[xi ⟨Z,λ_=>Z⟩,vG ec,iQ _ (Z),vG (by rw[EA]; simp; omega),xz]
    ·-- what is left cannot be more
     have hq2:q-1<=Q:=by
      rw[<- hQ,zN hV]
      refine Eo (u0:=u0) hq1 ?_
      have h3:q-1<=4294967295:=by
       grind
      have h4:(q-1)*v2<=4294967295*4294967295:=qX h3 (Z)
      grind
     have h5:q-1<=4294967295:=by
      grind
     omega
   ·left
    refine⟨(((q-1:Nat):Int),((r+v1:Nat):Int)),?_,⟨q-1,r+v1,rfl,rfl,Z,Z,hq1,Z⟩,by simp; omega⟩
    unfold iD
    simp only[w0,x1,x2,eq1,er1]
    rw[xi ⟨Z,λ_=>Z⟩,vG ec,iQ _ (Z),j6 (by rw[EA]; simp; omega),xz]
  ·right
   have hm2:=Ji (x:=q) (y:=v2) (Z) EG
   have e6:(q:Int)*(v2:Int)=((q*v2:Nat):Int):=qz
   have ec:((jj .u64 (q:Int) 32 != 0)||decide (H9 .u64 (Z7 .u64 (r:Int) 32) (u0:Int)<wh ((q:Int)*(v2:Int))))=false:=by
    have hz:q / 4294967296=0:=Z
    rw[es,e5,e6,ly (zG hm2 (xm)),hz]
    have hh:¬ (r*4294967296+u0<q*v2):=Z
    generalize q*v2=z at *
    rw[show decide ((r:Int)*4294967296+(u0:Int)<(z:Int))=false from decide_eq_false (Z)]; rfl
   refine⟨(q:Int),?_,?_⟩
   ·unfold iD
    simp only[w0,x1,x2]
    rw[xi ⟨Z,λ_=>Z⟩,j6 ec,xz]
   ·have hq2:q<=Q:=by
     rw[<- hQ,zN hV]
     exact Eo hqr (Z)
    omega
 obtain⟨r,hr,rfl⟩:=loop
 unfold pc
 have e7:wh (((u2*4294967296+u1) / v1:Nat):Int)=(((u2*4294967296+u1) / v1:Nat):Int):=ly (Z)
 simp only[w1,w2,x1,e1,e2,e3,e4,e7]
 rw[iQ _ (Z),sT _ (Z),sT _ (Z),zt hr,xz]
theorem BC{x y b:Nat}(N:x<4294967296)(hy:y<4294967296)(I:b<=1) :
  (kS (x:Int) (y:Int) (b:Int)).run=some ((((x+4294967296*(if x<y+b then 1 else 0))-(y+b):Nat):Int),((if x<y+b then 1 else 0:Nat):Int)):=by
 have e1:=zkR N hy I
 have e2:=Tx N hy I rfl
 unfold kS
 rw[iQ _ (Z),e1,e2,xz]
 grind
theorem Ra{x y b:Nat}(N:x<4294967296)(hy:y<4294967296)(I:b<=1) :
  (eF (x:Int) (y:Int) (b:Int)).run=some ((((x+y+b) % 4294967296:Nat):Int),(((x+y+b) / 4294967296:Nat):Int)):=by
 have e:wh (wh ((x:Int)+(y:Int))+(b:Int))=((x+y+b:Nat):Int):=by rw[gL (x:=(x:Int)+y) (Z) (Z),gL (Z) (Z)]; omega
 unfold eF
 rw[iQ _ (Z),ly (Z),ly (Z),ly (Z),e,EA,z1g,K4 (Z),xz]
theorem eY(xs:List Int)(o i:Nat)(x:Int):(xs.set (o+i) x).drop o=(xs.drop o).set i x:=by
 rw[List.drop_set,if_neg (Z)]; congr 1; omega
theorem rE(xs:List Int)(o i:Nat):lm (xs.drop o) i=lm xs (o+i):=by
 unfold lm nth
 grind
theorem z3d{zC X' P hx c bo q v w lo hi d zB k:Nat}(h:zC+q*hx=zB+(bo+c)*P)(hs:X'+P*w=zC+P*d)(hc:c+q*v=lo+4294967296*hi)(J:d+(lo+bo)=w+4294967296*k) :
  X'+q*(hx+P*v)=zB+(k+hi)*(P*4294967296):=xy
theorem zkH{c q v:Nat}(hc:c<4294967296)(hq:q<4294967296)(hv:v<4294967296):wh ((c:Int)+wh ((q:Int)*(v:Int)))=((c+q*v:Nat):Int)/\(c+q*v) / 4294967296<4294967296:=by
 have h:=Ji hq hv
 have e:(q:Int)*(v:Int)=((q*v:Nat):Int):=qz
 rw[e]
 generalize q*v=z at *
 rw[gL (x:=(z:Int)) (Z) (Z),gL (Z) (Z)]
 omega
theorem zd3(b:List Int)(I:qx b)(lb:b.length<=1000000000)(q:Nat)(hq:q<4294967296)(u:List Int)(hu:qx u)(o:Nat)(ho:o+b.length<u.length) :
  ∃ r:(Nat×Nat)×Int×Int×List Int,(Xf b (q:Int) b (b.length:Int) ((o,b.length+1),0,0,0,u)).run=some r/\r.1=(o,b.length+1)/\∃ c bo:Nat,r.2.1=(c:Int)/\r.2.2.1=(bo:Int)/\c<4294967296/\bo<=1/\qx r.2.2.2 /\
   r.2.2.2.length=u.length/\r.2.2.2.take o=u.take o/\(r.2.2.2.drop o).drop b.length=(u.drop o).drop b.length/\nv (r.2.2.2.drop o)+q*nv b=nv (u.drop o)+(bo+c)*4294967296 ^ b.length:=by
 refine T.ct (λs:(Nat×Nat)×Int×Int×Int×List Int=>s.1=(o,b.length+1)/\∃ c bo i:Nat,s.2.1=(c:Int)/\s.2.2.1=(bo:Int)/\s.2.2.2.1=(i:Int)/\c<4294967296/\bo<=1/\i<=b.length/\qx s.2.2.2.2 /\
   s.2.2.2.2.length=u.length/\s.2.2.2.2.take o=u.take o/\(s.2.2.2.2.drop o).drop i=(u.drop o).drop i/\nv (s.2.2.2.2.drop o)+q*nv (b.take i)=nv (u.drop o)+(bo+c)*4294967296 ^ i)
  (λs=>b.length-s.2.2.2.1.toNat) _ ?_ ⟨rfl,0,0,0,rfl,rfl,rfl,Z,Z,Z,hu,rfl,rfl,rfl,qz⟩
 rintro⟨_,_,_,_,xs⟩ ⟨rfl,c,bo,i,rfl,rfl,rfl,hc,hbo,hi,R,hn,ht,J,hv⟩
 simp only at R hn ht J hv ⊢
 by_cases wL:i<b.length
 ·left
  have hw:=lr I i
  have N:=lr R (o+i)
  obtain⟨m1,m2⟩:=zkH hc hq hw
  have hs:=BC N (show(c+q*lm b i) % 4294967296<4294967296 by omega) hbo
  have Eu:lm xs (o+i)+4294967296*(if lm xs (o+i)<(c+q*lm b i) % 4294967296+bo then 1 else 0)-((c+q*lm b i) % 4294967296+bo)<4294967296:=by split<;>omega
  have T0:(if lm xs (o+i)<(c+q*lm b i) % 4294967296+bo then 1 else 0)<=1:=by split<;>omega
  have hde:lm xs (o+i)+4294967296*(if lm xs (o+i)<(c+q*lm b i) % 4294967296+bo then 1 else 0)-((c+q*lm b i) % 4294967296+bo)+((c+q*lm b i) % 4294967296+bo)=lm xs (o+i)+4294967296*(if lm xs (o+i)<(c+q*lm b i) % 4294967296+bo then 1 else 0):=by split<;>omega
  generalize hD:lm xs (o+i)+4294967296*(if lm xs (o+i)<(c+q*lm b i) % 4294967296+bo then 1 else 0)-((c+q*lm b i) % 4294967296+bo)=D at *
  generalize hB:(if lm xs (o+i)<(c+q*lm b i) % 4294967296+bo then 1 else 0)=B2 at *
  refine⟨((o,b.length+1),((((c+q*lm b i) / 4294967296:Nat)):Int),(B2:Int),((i+1:Nat):Int),xs.set (o+i) (D:Int)),?_,
   ⟨rfl,(c+q*lm b i) / 4294967296,B2,i+1,rfl,rfl,rfl,m2,T0,Z,jV R _ Eu,by simpa using hn,?_,?_,?_⟩,by simp; omega⟩
  ·unfold iE
   have ew:wh (lm b i:Int)=lm b i:=ly (Z)
   simp only[bj,iG I,zA,oF R,ew,m1,z1g,EA,i1 i (Z)]
   rw[vG (by simp; omega),vK _ (Z) (Z),vK _ (Z) (Z),ft _ rfl (Z),zt hs]
   simp only
   rw[vK _ (Z) (Z),ft _ rfl (Z),iQ _ (Z),xi rfl,yU _ (qz),xz]
  ·simp only
   rw[zS (Z),ht]
  ·simp only
   rw[eY,cv]
   have:=congrArg (xK 1) J
   rw[qE,qE,]at this
   simpa[xC,qG]using this
  ·simp only
   rw[eY,ve,zF]
   have nQ:=CN (a:=xs.drop o) (i:=i) (D:Int) (by simp; omega)
   rw[zA,rE]at nQ
   exact z3d (lo:=(c+q*lm b i) % 4294967296) hv nQ (by generalize c+q*lm b i=z; omega) hde
 ·right
  have:i=b.length:=Z
  subst this
  refine⟨((o,b.length+1),(c:Int),(bo:Int),xs),?_,rfl,c,bo,rfl,rfl,hc,hbo,R,hn,ht,J,by simpa[List.take_length]using hv⟩
  unfold iE
  simp
theorem Tq{zC X' P hx m v w d hi zB:Nat}(h:zC+m*P=zB+hx)(hs:X'+P*w=zC+P*d)(J:d+4294967296*hi=w+v+m):X'+hi*(P*4294967296)=zB+(hx+P*v):=xy
theorem zd4(b:List Int)(I:qx b)(lb:b.length<=1000000000)(u:List Int)(hu:qx u)(o:Nat)(ho:o+b.length<u.length) :
  ∃ r:(Nat×Nat)×Int×List Int,(Xg b b (b.length:Int) ((o,b.length+1),0,0,u)).run=some r/\r.1=(o,b.length+1)/\∃ m:Nat,r.2.1=(m:Int)/\m<=1/\qx r.2.2 /\
   r.2.2.length=u.length/\r.2.2.take o=u.take o/\(r.2.2.drop o).drop b.length=(u.drop o).drop b.length/\nv (r.2.2.drop o)+m*4294967296 ^ b.length=nv (u.drop o)+nv b:=by
 refine T.ct (λs:(Nat×Nat)×Int×Int×List Int=>s.1=(o,b.length+1)/\∃ m i:Nat,s.2.1=(m:Int)/\s.2.2.1=(i:Int)/\m<=1/\i<=b.length/\qx s.2.2.2 /\
   s.2.2.2.length=u.length/\s.2.2.2.take o=u.take o/\(s.2.2.2.drop o).drop i=(u.drop o).drop i/\nv (s.2.2.2.drop o)+m*4294967296 ^ i=nv (u.drop o)+nv (b.take i))
  (λs=>b.length-s.2.2.1.toNat) _ ?_ ⟨rfl,0,0,rfl,rfl,Z,Z,hu,rfl,rfl,rfl,qz⟩
 rintro⟨_,_,_,xs⟩ ⟨rfl,m,i,rfl,rfl,hm,hi,R,hn,ht,J,hv⟩
 simp only at R hn ht J hv ⊢
 by_cases wL:i<b.length
 ·left
  have hw:=lr I i
  have N:=lr R (o+i)
  have hs:=Ra N hw hm
  refine⟨((o,b.length+1),(((lm xs (o+i)+lm b i+m) / 4294967296:Nat):Int),((i+1:Nat):Int),xs.set (o+i) (((lm xs (o+i)+lm b i+m) % 4294967296:Nat):Int)),?_,
   ⟨rfl,_,i+1,rfl,rfl,Z,Z,jV R _ (Z),by simpa using hn,?_,?_,?_⟩,by simp; omega⟩
  ·unfold iF
   simp only[bj,iG I,zA,oF R,i1 i (Z)]
   rw[vG (by simp; omega),vK _ (Z) (Z),vK _ (Z) (Z),ft _ rfl (Z),zt hs]
   simp only
   rw[vK _ (Z) (Z),ft _ rfl (Z),xi rfl,yU _ (qz),xz]
  ·simp only
   rw[zS (Z),ht]
  ·simp only
   rw[eY,cv]
   have:=congrArg (xK 1) J
   simpa[xC,qG]using this
  ·simp only
   rw[eY,ve,zF]
   have nQ:=CN (a:=xs.drop o) (i:=i) (((lm xs (o+i)+lm b i+m) % 4294967296:Nat):Int) (by simp; omega)
   rw[zA,rE]at nQ
   exact Tq hv nQ (Z)
 ·right
  have:i=b.length:=Z
  subst this
  refine⟨((o,b.length+1),(m:Int),xs),?_,rfl,m,rfl,hm,R,hn,ht,J,by simpa[List.take_length]using hv⟩
  unfold iF
  simp
theorem Xi{D:List Int}(R:qx D)(k:Nat)(hk:k<=D.length)(h:nv D<4294967296 ^ k):nv (D.drop k)=0:=by
 have h1:=ng D k hk
 rcases qB (nv (D.drop k))with z | z
 ·exact z
 ·have:=zK (4294967296 ^ k) z
  omega
theorem Ul{D:List Int}(R:qx D)(k:Nat)(hk:k<=D.length)(h:nv (D.drop k)=0):nv D<4294967296 ^ k:=by
 have h1:=ng D k hk
 have M:=bV R k
 grind
theorem z1c{zC X' P q hx c bo w d zB k:Nat}(h:zC+q*hx=zB+(bo+c)*P)(hs:X'+P*w=zC+P*d)(J:d+(c+bo)=w+4294967296*k):X'+q*hx=zB+k*(P*4294967296):=xy
theorem Ts{z6 zB zC oE P L m p hx:Nat}(h1:z6+P*L=zB+P*((L+m) % 4294967296))(M:zB+m*P=zC+hx)(h3:zC+(p+1)*hx=oE+1*(P*4294967296))(h4:z6<P*4294967296)(h5:(p+1)*hx<=oE+hx)
  (hm:m<=1) (hL:L<4294967296):z6+(p+1-1)*hx=oE:=by
 by_cases hov:L+m<4294967296
 ·rw[qS hov,qO]at h1
  grind
 ·have zsf:(L+m) % 4294967296=0:=Z
  grind
theorem SR(b:List Int)(I:qx b)(lb:b.length<=1000000000)(q:Nat)(hq:q<4294967296)(u:List Int)(hu:qx u)(lu:u.length<=4000000000)(o:Nat)(ho:o+b.length<u.length)
  (GV:nv (u.drop o)<4294967296 ^ (b.length+1)) (zg0:q*nv b<=nv (u.drop o)+nv b) :
  ∃ xs:List Int,(sK (o,b.length+1) b (q:Int) u).run=some (decide (nv (u.drop o)<q*nv b),xs)/\qx xs/\xs.length=u.length/\xs.take o=u.take o /\
   nv (xs.drop o)+(if nv (u.drop o)<q*nv b then q-1 else q)*nv b=nv (u.drop o):=by
 obtain⟨⟨_,_,_,xs⟩,hr,rfl,c,bo,rfl,rfl,hc,hbo,R,hn,ht,J,hv⟩:=zd3 b I lb q hq u hu o ho
 simp only at R hn ht J hv
 have hBl:=YW I
 have N:=lr R (o+b.length)
 have hs:=BC N hc hbo
 have Eu:lm xs (o+b.length)+4294967296*(if lm xs (o+b.length)<c+bo then 1 else 0)-(c+bo)<4294967296:=by split<;>omega
 have T0:(if lm xs (o+b.length)<c+bo then 1 else 0)<=1:=by split<;>omega
 have hde:lm xs (o+b.length)+4294967296*(if lm xs (o+b.length)<c+bo then 1 else 0)-(c+bo)+(c+bo)=lm xs (o+b.length)+4294967296*(if lm xs (o+b.length)<c+bo then 1 else 0):=by split<;>omega
 generalize lm xs (o+b.length)+4294967296*(if lm xs (o+b.length)<c+bo then 1 else 0)-(c+bo)=D at *
 generalize (if lm xs (o+b.length)<c+bo then 1 else 0)=B2 at *
 have nQ:=CN (a:=xs.drop o) (i:=b.length) (D:Int) (by simp; omega)
 rw[zA,rE,<- eY]at nQ
 have z0M:=z1c hv nQ hde
 have hl1:qx (xs.set (o+b.length) (D:Int)):=jV R _ Eu
 have Yi:(xs.set (o+b.length) (D:Int)).length=u.length:=by simpa using hn
 have ht1:(xs.set (o+b.length) (D:Int)).take o=u.take o:=by rw[zS (Z),ht]
 have hd1:((xs.set (o+b.length) (D:Int)).drop o).drop (b.length+1)=(u.drop o).drop (b.length+1):=by
  rw[eY,cv]
  have:=congrArg (xK 1) J
  rw[qE,qE]at this
  simpa[xC,qG]using this
 have hz:=Xi (rD hu o) (b.length+1) (by simp; omega) GV
 have z0S:nv ((xs.set (o+b.length) (D:Int)).drop o)<4294967296 ^ (b.length+1):=Ul (rD hl1 o) _ (by simp; omega) (by rw[hd1]; exact hz)
 have zlO:(4294967296:Nat) ^ (b.length+1)=4294967296 ^ b.length*4294967296:=zF ..
 have ec:gK (c:Int)=c:=K4 hc
 unfold sK
 rw[yU _ rfl,yU _ rfl,zt hr]
 simp only[zA,bj,oF R,ec]
 rw[vK _ (Z) (Z),ft _ rfl (Z),zt hs]
 simp only
 rw[vK _ (Z) (Z),ft _ rfl (Z)]
 generalize hX:xs.set (o+b.length) (D:Int)=zC at *
 rcases qB B2 with z | z
 ·subst z
  rw[vG (qz),yU _ (Z),xz]
  grind
 ·have hB2:B2=1:=Z
  subst hB2
  have wL:nv (u.drop o)<q*nv b:=Z
  obtain⟨⟨_,_,ys⟩,hr2,rfl,m,rfl,hm,ZJ,Cp,RP,hd2,EG⟩:=zd4 b I lb zC hl1 o (Z)
  simp only at ZJ Cp RP hd2 EG
  have hy:=lr ZJ (o+b.length)
  have eu:gK ((lm ys (o+b.length):Int)+(m:Int))=(((lm ys (o+b.length)+m) % 4294967296:Nat):Int):=by rw[<- z1g]; rfl
  rw[j6 (qz),xi rfl,yU _ (Z),zt hr2]
  simp only[zA,bj,oF ZJ,eu]
  rw[vK _ (Z) (Z),ft _ rfl (Z),vK _ (Z) (Z),ft _ rfl (Z),yU _ (qz),xz]
  have z9H:=CN (a:=ys.drop o) (i:=b.length) (((lm ys (o+b.length)+m) % 4294967296:Nat):Int) (by simp; omega)
  rw[zA,rE,<- eY]at z9H
  have hl3:qx (ys.set (o+b.length) (((lm ys (o+b.length)+m) % 4294967296:Nat):Int)):=jV ZJ _ (Z)
  have hd3:((ys.set (o+b.length) (((lm ys (o+b.length)+m) % 4294967296:Nat):Int)).drop o).drop (b.length+1)=(u.drop o).drop (b.length+1):=by
   rw[eY,cv,<- hd1]
   have:=congrArg (xK 1) hd2
   rw[qE,qE]at this
   simpa[xC,qG]using this
  have zfW:nv ((ys.set (o+b.length) (((lm ys (o+b.length)+m) % 4294967296:Nat):Int)).drop o)<4294967296 ^ (b.length+1):=Ul (rD hl3 o) _ (by simp; omega) (by rw[hd3]; exact hz)
  refine⟨_,by rw[decide_eq_true wL],hl3,by simp; omega,?_,?_⟩
  ·rw[zS (Z),RP,ht1]
  ·rw[if_pos wL]
   generalize nv ((ys.set (o+b.length) (((lm ys (o+b.length)+m) % 4294967296:Nat):Int)).drop o)=z6 at *
   obtain⟨p,rfl⟩:∃ p,q=p+1:=⟨q-1,by
    rcases qB q with h | h
    ·subst h; omega
    ·omega⟩
   rw[zlO]at zfW
   exact Ts z9H EG z0M zfW zg0 hm hy
def ZN:zx:=[0,1,2,2,3,3,3,3,4,4,4,4,4,4,4,4]++X 16 5++X 32 6++X 64 7++X 128 8
theorem S1:∀ y:Fin 256,y.val≠0->1<=(ZN.getD y.val 0).toNat/\(ZN.getD y.val 0).toNat<=8/\2 ^ ((ZN.getD y.val 0).toNat-1)<=y.val/\y.val<2 ^ (ZN.getD y.val 0).toNat:=by decide +kernel
set_option maxRecDepth 100000 in
theorem L6:ZN.length=256:=by rfl
theorem len8{y:Nat}(h0:0<y)(h:y<256):∃ t:Nat,uq ZN (y:Int)=(t:Int)/\1<=t/\t<=8/\2 ^ (t-1)<=y/\y<2 ^ t:=by
 have:=S1 ⟨y,h⟩ (by simp; omega)
 refine⟨(ZN.getD y 0).toNat,?_,this⟩
 unfold uq
 rw[zA]
theorem Pk{x s:Nat}(hs:s<=32):jj .u32 (x:Int) (s:Int)=((x / 2 ^ s:Nat):Int):=by
 show Int.fdiv (x:Int) (2 ^ (min (s:Int).toNat 32))=_
 grind
set_option maxRecDepth 100000 in
theorem S0{x:Nat}(h0:0<x)(h:x<4294967296):∃ t:Nat,(eH (x:Int)).run=some (t:Int)/\1<=t/\t<=32/\2 ^ (t-1)<=x/\x<2 ^ t:=by
 have zmW:eH (x:Int)=(.W (((decide ((65536:Int)<=(x:Int)))=true)->((0:Int)<=(16:Int))) <|
  .W (((decide ((256:Int)<=(bif (decide ((65536:Int)<=(x:Int)))then(jj .u32 (x:Int) (16:Int))else(x:Int))))=true)->((0:Int)<=(8:Int))) <|
  .W (xe (wu8 (bif (decide ((256:Int)<=(bif (decide ((65536:Int)<=(x:Int)))then(jj .u32 (x:Int) (16:Int))else(x:Int))))then(jj .u32 (bif (decide ((65536:Int)<=(x:Int)))then(jj .u32 (x:Int) (16:Int))else(x:Int)) (8:Int))else(bif (decide ((65536:Int)<=(x:Int)))then(jj .u32 (x:Int) (16:Int))else(x:Int)))) ZN.length) <|
  .ret (qo ((bif (decide ((256:Int)<=(bif (decide ((65536:Int)<=(x:Int)))then(jj .u32 (x:Int) (16:Int))else(x:Int))))then(qo ((bif (decide ((65536:Int)<=(x:Int)))then(16:Int)else(0:Int))+(8:Int)))else(bif (decide ((65536:Int)<=(x:Int)))then(16:Int)else(0:Int)))+(qo (uq ZN (wu8 (bif (decide ((256:Int)<=(bif (decide ((65536:Int)<=(x:Int)))then(jj .u32 (x:Int) (16:Int))else(x:Int))))then(jj .u32 (bif (decide ((65536:Int)<=(x:Int)))then(jj .u32 (x:Int) (16:Int))else(x:Int)) (8:Int))else(bif (decide ((65536:Int)<=(x:Int)))then(jj .u32 (x:Int) (16:Int))else(x:Int)))))))):T Int):=by rfl
 rw[zmW,L6]
 -- y: what is left; k: how many bits ahead of it
 obtain⟨y,k,e1,e2,hk,hy0,hy,hlo,hhi⟩:∃ y k:Nat,(bif (decide ((256:Int)<=(bif (decide ((65536:Int)<=(x:Int)))then(jj .u32 (x:Int) (16:Int))else(x:Int))))then(jj .u32 (bif (decide ((65536:Int)<=(x:Int)))then(jj .u32 (x:Int) (16:Int))else(x:Int)) (8:Int))else(bif (decide ((65536:Int)<=(x:Int)))then(jj .u32 (x:Int) (16:Int))else(x:Int)))=(y:Int) /\
   (bif (decide ((256:Int)<=(bif (decide ((65536:Int)<=(x:Int)))then(jj .u32 (x:Int) (16:Int))else(x:Int))))then(qo ((bif (decide ((65536:Int)<=(x:Int)))then(16:Int)else(0:Int))+(8:Int)))else(bif (decide ((65536:Int)<=(x:Int)))then(16:Int)else(0:Int)))=(k:Int) /\
   k<=24/\0<y/\y<256/\y*2 ^ k<=x/\x<(y+1)*2 ^ k:=by
  have s16:jj .u32 (x:Int) 16=((x / 65536:Nat):Int):=Pk (s:=16) (Z)
  have s8:∀ z:Nat,jj .u32 (z:Int) 8=((z / 256:Nat):Int):=λz=>Pk (s:=8) (Z)
  by_cases c1:65536<=x
  ·rw[show decide ((65536:Int)<=(x:Int))=true from decide_eq_true (Z)]
   simp only[cond_true,s16]
   by_cases c2:256<=x / 65536
   ·rw[show decide ((256:Int)<=((x / 65536:Nat):Int))=true from decide_eq_true (Z)]
    simp only[cond_true,s8]
    exact⟨x / 65536 / 256,24,rfl,xm,Z,Z,Z,Z,Z⟩
   ·rw[show decide ((256:Int)<=((x / 65536:Nat):Int))=false from decide_eq_false (Z)]
    simp only[cond_false]
    exact⟨x / 65536,16,rfl,rfl,Z,Z,Z,Z,Z⟩
  ·rw[show decide ((65536:Int)<=(x:Int))=false from decide_eq_false (Z)]
   simp only[cond_false]
   by_cases c2:256<=x
   ·rw[show decide ((256:Int)<=(x:Int))=true from decide_eq_true (Z)]
    simp only[cond_true,s8]
    exact⟨x / 256,8,rfl,xm,Z,Z,Z,Z,Z⟩
   ·rw[show decide ((256:Int)<=(x:Int))=false from decide_eq_false (Z)]
    simp only[cond_false]
    exact⟨x,0,rfl,rfl,Z,Z,Z,Z,Z⟩
 obtain⟨t,t1,t2,t3,t4,t5⟩:=len8 hy0 hy
 rw[e1,e2,zdd (Z) (Z),t1,qv (x:=(t:Int)) (Z) (Z),qv (Z) (Z)]
 refine⟨k+t,?_,Z,Z,?_,?_⟩
 ·rw[xi (λ_=>Z),xi (λ_=>Z),vK _ (Z) (Z),xz]; rfl
 ·rw[show k+t-1=(t-1)+k by omega,qA]
  exact zQ (Y _ t4) hlo
 ·rw[show k+t=t+k by omega,qA]
  exact Nat.lt_of_lt_of_le hhi (Y _ t5)
theorem z1Y{x:Nat}(h0:0<x)(h:x<4294967296):∃ s:Nat,(ke (x:Int)).run=some (s:Int)/\s<32/\2147483648<=x*2 ^ s/\x*2 ^ s<4294967296:=by
 obtain⟨t,t1,t2,t3,t4,t5⟩:=S0 h0 h
 refine⟨32-t,?_,Z,?_,?_⟩
 ·unfold ke
  rw[zt t1,xz,qv (Z) (Z)]
  grind
 ·have:=Y (2 ^ (32-t)) t4
  rw[<- qA,show t-1+(32-t)=31 by omega]at this
  exact this
 ·have:=qD t5 (show 0<2 ^ (32-t)from zT (Z))
  rw[<- qA,show t+(32-t)=32 by omega]at this
  exact this
theorem horner(a b c:Nat):(a*4294967296+b)*4294967296+c=a*18446744073709551616+b*4294967296+c:=by
 rw[Nat.add_mul,qJ]
theorem IJ{u2 u1 u0 v1 v2:Nat}(M:u2<4294967296)(h1:u1<4294967296)(h0:u0<4294967296)(hv1:v1<4294967296)(EG:v2<4294967296)(hn:2147483648<=v1)
  (ht:(u2*4294967296+u1)*4294967296+u0<(v1*4294967296+v2+1)*4294967296) :
  (pc (u2:Int) (u1:Int) (u0:Int) (v1:Int) (v2:Int)).run=some ((min (((u2*4294967296+u1)*4294967296+u0) / (v1*4294967296+v2)) 4294967295:Nat):Int):=by
 rw[horner]at ht ⊢
 exact Rz M h1 h0 hv1 EG hn ht
theorem z3e(a b P t:Nat):t+P*b+P*4294967296*a=(a*4294967296+b)*P+t:=xy
theorem zkT(d:List Int)(n:Nat)(hn:d.length=n+2):nv d=(lm d (n+1)*4294967296+lm d n)*4294967296 ^ n+nv (d.take n):=by
 have h1:=ve d n
 have M:=ve d (n+1)
 rw[gH (Z)]at M
 rw[M,h1,zF,z3e]
theorem z3f{hI a b c P He t1 t2 t3:Nat}(h1:t1=He+P*c)(M:t2=t1+P*hI*b)(h3:t3=t2+P*hI*hI*a):t3=((a*hI+b)*hI+c)*P+He:=by
 rw[h3,M,h1]; grind
theorem zp3(w:List Int)(n:Nat)(h:nv (w.drop (n+1+1+1))=0):nv w=((lm w (n+1+1)*4294967296+lm w (n+1))*4294967296+lm w n)*4294967296 ^ n+nv (w.take n):=by
 have h0:nv w=nv (w.take (n+1+1+1)):=by
  by_cases c:n+1+1+1<=w.length
  ·have:=ng w (n+1+1+1) c
   rw[h,Nat.mul_zero,qH]at this; exact this
  ·rw[gH (Z)]
 have h1:=ve w n
 have M:=ve w (n+1)
 have h3:=ve w (n+1+1)
 rw[zF]at M
 rw[zF,zF,<- h0]at h3
 exact z3f h1 M h3
theorem L7{a b:List Int}{k i:Nat}(h:a.take k=b.take k)(hi:i<k):lm a i=lm b i:=by
 have e:=congrArg (λl=>l[i]?) h
 simp only[qW,if_pos hi]at e
 unfold lm nth
 rw[zP,zP,zA,e]
theorem zd7{U3 V2 D zC zB oE zD:Nat}(hU:oE=U3*D+zC)(hV:zD=V2*D+zB)(hY:zB<D)(hUV:oE<zD*4294967296):U3<(V2+1)*4294967296:=by
 have h1:U3*D<(V2+1)*4294967296*D:=by
  have e:(V2+1)*4294967296*D=(V2*D+D)*4294967296:=xy
  rw[e]
  have:zD*4294967296<=(V2*D+D)*4294967296:=Y _ (Z)
  omega
 exact zU h1
theorem SW(d:List Int)(J:qx d)(n:Nat)(hn:d.length=n+2)(EF:2147483648<=lm d (n+1))(w:List Int)(hw:qx w)(hwl:n+1+1+1<=w.length)(hW:nv w<nv d*4294967296) :
  ∃ x:Nat,(pc (lm w (n+1+1):Int) (lm w (n+1):Int) (lm w n:Int) (lm d (n+1):Int) (lm d n:Int)).run=some (x:Int)/\x<4294967296/\nv w / nv d<=x/\x<=nv w / nv d+1/\nv w<4294967296 ^ (d.length+1):=by
 have Eu:=YW J
 have hdt:=zkT d n hn
 have hdn:=bV J n
 have hWp:nv w<4294967296 ^ (d.length+1):=by
  rw[zF]
  exact Nat.lt_of_lt_of_le hW (Y _ (Nat.le_of_lt Eu))
 have hz:=Xi hw (d.length+1) (Z) hWp
 rw[show d.length+1=n+1+1+1 by omega]at hz
 have ht3:=zp3 w n hz
 have hwn:=bV hw n
 have hU3:=zd7 ht3 hdt hdn hW
 refine⟨_,IJ (lr hw _) (lr hw _) (lr hw _) (lr J _) (lr J _) EF hU3,?_,?_,?_,hWp⟩
 ·exact zG (Nat.min_le_right _ _) (xm)
 ·refine(MH ht3 hwn hdt hdn ?_ hW rfl).1
  exact zQ (Y 4294967296 EF) (Nat.le_add_right _ _)
 ·refine(MH ht3 hwn hdt hdn ?_ hW rfl).2
  exact zQ (Y 4294967296 EF) (Nat.le_add_right _ _)
theorem znJ{zk zD x:Nat}(g2:x<=zk / zD+1):x*zD<=zk+zD:=by
 have h1:=Y zD g2
 have M:=qV zk zD
 rw[Nat.add_mul,Nat.one_mul]at h1
 omega
theorem digit{zk zD x:Nat}(hV:0<zD)(g1:zk / zD<=x)(g2:x<=zk / zD+1):(if zk<x*zD then x-1 else x)=zk / zD:=by
 have hdm:=qC zk zD
 have hml:=zV zk hV
 have hz:0<=zk / zD:=xB _
 split
 ·rename_i c
  have:x≠zk / zD:=by
   intro h
   rw[h,zE]at c; omega
  generalize zk / zD=z at *
  omega
 ·rename_i c
  have hle:x<=zk / zD:=(zN hV).2 (Z)
  exact Nat.le_antisymm hle g1
theorem zdb{l hx zD:Nat}(R:l<4294967296)(hN:hx<zD):l+4294967296*hx<zD*4294967296:=by
 have:=zK 4294967296 (show hx+1<=zD from hN)
 omega
theorem L8(d:List Int)(J:qx d)(n:Nat)(hn:d.length=n+2)(ln:n<=999999990)(EF:2147483648<=lm d (n+1))(y:Int)(i:Nat)(li:i<=1000000000)(u q:List Int)(R:qx u)(lu:u.length<=2000000000)(hiu:i+d.length<u.length)
  (hq:qx q) (hiq:i<q.length) (wL:nv (u.drop (i+1))<nv d) :
  ∃ (xs:List Int) (z:Nat),(nf y d ((n+2:Nat):Int) ((i:Int),u,q)).run=some (.inl ((i:Int)-1,xs,q.set i (z:Int)))/\z<4294967296/\qx xs/\xs.length=u.length/\xs.take i=u.take i/\nv (xs.drop i)<nv d /\
   nv (xs.drop i)+z*nv d=lm u i+4294967296*nv (u.drop (i+1)):=by
 have hwd:=Kz (a:=u) (i:=i) (Z)
 have hW:=zdb (lr R i) wL
 rw[<- hwd]at hW
 obtain⟨x,hg,N,g1,g2,hWp⟩:=SW d J n hn EF (u.drop i) (rD R i) (by rw[List.length_drop]; omega) hW
 have hdp:0<nv d:=zG (xB _) wL
 obtain⟨xs,hr,FU,hxn,hxt,MP⟩:=SR d J (Z) x N u R (Z) i hiu hWp (znJ g2)
 have zbr:=digit hdp g1 g2
 rw[zbr]at MP
 rw[rE,rE,rE]at hg
 have hdq:nv (u.drop i) / nv d<4294967296:=zG g1 N
 have zbD:nv (xs.drop i)<nv d:=by
  have h1:=qC (nv (u.drop i)) (nv d)
  have M:=zV (nv (u.drop i)) hdp
  grind
 refine⟨xs,nv (u.drop i) / nv d,?_,hdq,FU,hxn,hxt,zbD,by rw[MP,hwd]⟩
 have hx1:∀ c:Bool,c=decide (nv (u.drop i)<x*nv d)->(if c=true then wh ((x:Int)-1)else(x:Int))=((nv (u.drop i) / nv d:Nat):Int):=by
  intro c hc
  rw[<- zbr]
  by_cases cc:nv (u.drop i)<x*nv d
  ·have Kx:x≠0:=by intro h; subst h; omega
   rw[hc,decide_eq_true cc,if_pos rfl,if_pos cc,gL (Z) (Z)]; omega
  ·grind
 generalize nv (u.drop i) / nv d=z at *
 clear g1 g2 MP zbr hW hWp wL zbD hwd
 have ei:qo ((i:Int)-1)=(i:Int)-1:=qv (Z) (Z)
 have a0:qo ((i:Int)+((n+2:Nat):Int))=((i+(n+1+1):Nat):Int):=by rw[qv (Z) (Z)]; omega
 have a1:qo (((i+(n+1+1):Nat):Int)-1)=((i+(n+1):Nat):Int):=by rw[qv (Z) (Z)]; omega
 have a2:qo (((i+(n+1+1):Nat):Int)-2)=((i+n:Nat):Int):=by rw[qv (Z) (Z)]; omega
 have a3:qo (((n+2:Nat):Int)-1)=((n+1:Nat):Int):=by rw[qv (Z) (Z)]; omega
 have a4:qo (((n+2:Nat):Int)-2)=((n:Nat):Int):=by rw[qv (Z) (Z)]; omega
 have a5:qo (((i+(n+1+1):Nat):Int)+1)=((i+(n+1+1)+1:Nat):Int):=i1 _ (Z)
 have znz:i+(n+1+1)+1-i=d.length+1:=Z
 unfold nf
 simp only[ei,a0,a1,a2,a3,a4,a5]
 rw[vG (qz)]
 rw[vK _ (Z) (Z),ft _ rfl (Z),vK _ (Z) (Z),ft _ rfl (Z),vK _ (Z) (Z),ft _ rfl (Z),vK _ (Z) (Z),vK _ (Z) (Z)]
 simp only[zA,Nat.zero_add,bj,oF R,iG J,znz]
 rw[zt hg]
 have hc:=hx1 _ rfl
 rw[zt (a:=((z:Int),xs,q)) ?_]
 ·simp only[K4 hdq]
  rw[vK _ (Z) (Z),ft _ rfl (Z),b9 _ (qz) rfl (qz),b9 _ rfl rfl rfl,xi rfl,yU _ (qz),xz]
 ·rw[Xp _ (Z) (Z) (Z),xi rfl,xi rfl,zt hr]
  simp only[Fp]
  by_cases cc:nv (u.drop i)<x*nv d
  ·rw[if_pos (decide_eq_true cc)]at hc ⊢
   rw[b9 _ rfl rfl rfl,b9 _ (Z) rfl (Z),xi rfl,xi rfl,xz,hc]
  ·rw[if_neg (by simpa using cc)]at hc ⊢
   rw[b9 _ rfl rfl rfl,b9 _ (Z) rfl (Z),xi rfl,xi rfl,xz,hc]
theorem Sn(d:List Int)(J:qx d)(m n:Nat)(hn:d.length=n+2)(hm:n+2<=m)(lm':m<=999999990)(EF:2147483648<=lm d (n+1))(u0:List Int)(hu0:qx u0)(hlu:u0.length=m+1)
  (vU:nv (u0.drop (m-(n+2)+1))<nv d) (y:Int) :
  ∃ r:List Int×List Int,(JO y d ((n+2:Nat):Int) (((m-(n+2):Nat):Int),u0,X (m-(n+2)+1) 0)).run=some r/\qx r.1/\r.1.length=m+1/\qx r.2/\r.2.length=m-(n+2)+1/\nv r.1<nv d/\nv u0=nv r.2*nv d+nv r.1:=by
 refine T.ct (λs:Int×List Int×List Int=>∃ k:Nat,s.1=(k:Int)-1/\k<=m-(n+2)+1/\qx s.2.1/\s.2.1.length=m+1/\qx s.2.2/\s.2.2.length=m-(n+2)+1/\s.2.1.take k=u0.take k /\
   nv (s.2.1.drop k)<nv d/\nv (u0.drop k)=nv (s.2.2.drop k)*nv d+nv (s.2.1.drop k))
  (λs=>(s.1+1).toNat) _ ?_ ⟨m-(n+2)+1,qz,zJ _,hu0,hlu,vM _,qz,rfl,vU,qz⟩
 rintro⟨_,u,q⟩ ⟨k,rfl,hk,R,hul,hq,hql,htk,wL,hv⟩
 simp only at R hul hq hql htk wL hv ⊢
 cases k with
 | zero =>
  right
  refine⟨(u,q),?_,R,hul,hq,hql,xy,xy⟩
  unfold nf
  simp
 | succ i =>
  left
  obtain⟨xs,z,hr,hz,FU,hxn,hxt,hxm,MP⟩:=L8 d J n hn (Z) EF y i (Z) u q R (Z) (Z) hq (Z) wL
  have e1:((i+1:Nat):Int)-1=(i:Int):=Z
  refine⟨((i:Int)-1,xs,q.set i (z:Int)),xy,⟨i,rfl,Z,FU,hxn.trans hul,jV hq _ hz,xy,?_,hxm,?_⟩,qz⟩
  ·simp only
   have:=congrArg (List.take i) htk
   grind
  ·simp only
   rw[set_drop _ (Z),zA,Kz (a:=u0) (Z),<- L7 htk (show i<i+1 by omega)]
   grind
theorem z1l{A hI S Q hl:Nat}(hS:0<S)(h:A*S=Q*(hI*S)+hl)(hR:hl<hI*S):Q=A / hI/\hl / S=A % hI:=by
 have hB:0<hI:=zO λz=>by subst z; simp at hR
 have h1:=qC hl S
 have h3:A*S=S*(Q*hI+hl / S)+hl % S:=by
  grind
 have h4:hl % S=0:=by
  have:=congrArg (· % S) h3
  simp only[Nat.mul_mod_left]at this
  rw[qG,Nat.add_mul_mod_self_left,Nat.mod_mod]at this
  grind
 rw[h4,qH,zE A]at h3
 have h5:=qZ hS h3
 have h6:hl / S<hI:=(zM hS).2 hR
 constructor
 ·rw[h5,zE,Nat.mul_add_div hB,qI h6,qH]
 ·rw[h5,zE,Nat.mul_add_mod,qS h6]
theorem z38{A S P D zD zC:Nat}(hA:A<D*P)(hS:S<=2147483648)(hV:2147483648*P<=zD)(hX:zC*D<=A*S)(hD:0<D)(hS0:0<S):zC<zD:=by
 have h1:A*S<D*zD:=by
  have a1:A*S<D*P*S:=qD hA hS0
  have a2:D*P*S<=D*zD:=by
   have:P*S<=zD:=by
    have:=zK P hS
    grind
   rw[qJ]
   exact zK D this
  omega
 have M:zC*D<zD*D:=by rw[zE zD]; exact zG hX h1
 exact zU M
theorem CH(a b:List Int)(ha:qx a)(I:qx b)(la:a.length<=100000000)(n:Nat)(hbn:b.length=n+2)(hba:b.length<=a.length)(EF:lm b (n+1)≠0) :
  (Ui a b).run=some (vN (nv a / nv b),vN (nv a % nv b)):=by
 have ht:=lr I (n+1)
 obtain⟨s,hs,T9,hs2,hs3⟩:=z1Y (x:=lm b (n+1)) (Z) ht
 have zg7:2 ^ s<=2147483648:=by
  have:2 ^ s<=2 ^ 31:=zZ (Z) (Z)
  exact this
 have Wq:0<2 ^ s:=zT (Z)
 have hBt:=zkT b n hbn
 -- the divisor
 have z9w:nv b*2 ^ s<4294967296 ^ b.length:=by
  have h1:=ve b (n+1)
  rw[gH (Z)]at h1
  have M:=bV I (n+1)
  have h3:nv b<4294967296 ^ (n+1)*(lm b (n+1)+1):=by rw[h1,qO]; omega
  rw[hbn]
  have h4:(lm b (n+1)+1)*2 ^ s<=4294967296:=by
   have hm:4294967296=2 ^ (32-s)*2 ^ s:=fk s (Z)
   have h5:lm b (n+1)<2 ^ (32-s):=by
    rw[hm]at hs3
    exact zU hs3
   have:=Y (2 ^ s) (show lm b (n+1)+1<=2 ^ (32-s)from h5)
   grind
  have h5:nv b*2 ^ s<4294967296 ^ (n+1)*(lm b (n+1)+1)*2 ^ s:=qD h3 Wq
  have h6:4294967296 ^ (n+1)*(lm b (n+1)+1)*2 ^ s<=4294967296 ^ (n+2):=by
   rw[qJ,zF 4294967296 (n+1)]
   exact zK _ h4
  grind
 obtain⟨d,J,Eu,hdn,hdv⟩:=Xe b I (Z) s b.length T9 (zJ _) (Z) z9w
 have zfI:nv a*2 ^ s<4294967296 ^ (a.length+1):=by
  have h1:=YW ha
  rw[zF]
  exact qY h1 (zQ zg7 (Z)) (Z)
 obtain⟨u,hu,hul,hun,huv⟩:=Xe a ha (Z) s (a.length+1) T9 (Z) (Z) zfI
 -- ff highest limb
 have z9s:2147483648<=lm d (n+1):=by
  have h1:=ve d (n+1)
  rw[gH (Z),hdv]at h1
  have M:=bV Eu (n+1)
  have h3:=ve b (n+1)
  rw[gH (Z)]at h3
  have h4:4294967296 ^ (n+1)*(lm b (n+1)*2 ^ s)<=nv b*2 ^ s:=by
   rw[<- qJ]
   exact Y _ (Z)
  have h5:4294967296 ^ (n+1)*2147483648<=nv b*2 ^ s:=zQ (zK _ hs2) h4
  have h6:4294967296 ^ (n+1)*2147483648<4294967296 ^ (n+1)*(lm d (n+1)+1):=by
   rw[qO]; omega
  have:=Nat.lt_of_mul_lt_mul_left h6
  omega
 have vU:nv (u.drop (a.length-(n+2)+1))<nv d:=by
  have h1:=ng u (a.length-(n+2)+1) (Z)
  have M:nv (u.drop (a.length-(n+2)+1))*4294967296 ^ (a.length-(n+2)+1)<=nv a*2 ^ s:=by
   rw[<- huv,h1,zE]; omega
  have h3:2147483648*4294967296 ^ (n+1)<=nv d:=by
   have h4:=ve d (n+1)
   rw[gH (Z)]at h4
   have h5:=zK (4294967296 ^ (n+1)) z9s
   rw[zE 2147483648]; omega
  have h4:nv a<4294967296 ^ (a.length-(n+2)+1)*4294967296 ^ (n+1):=by
   rw[<- qA,show a.length-(n+2)+1+(n+1)=a.length by omega]
   exact YW ha
  exact z38 h4 zg7 h3 M (Fj _) Wq
 obtain⟨⟨xu,xq⟩,hr,hxu,hxun,hxq,hxqn,hxlt,MP⟩:=Sn d Eu a.length n (Z) (Z) (Z) z9s u hul (Z) vU (s:Int)
 simp only at hxu hxun hxq hxqn hxlt MP
 rw[huv,hdv]at MP
 rw[hdv]at hxlt
 obtain⟨f1,f2⟩:=z1l Wq MP hxlt
 -- the text
 have e1:qo ((b.length:Int)-1)=((n+1:Nat):Int):=by rw[qv (Z) (Z)]; omega
 have es:wh (s:Int)=s:=ly (Z)
 have e2:qo ((a.length:Int)+1)=((a.length+1:Nat):Int):=i1 _ (Z)
 have e3:qo (qo ((a.length:Int)-((n+2:Nat):Int))+1)=((a.length-(n+2)+1:Nat):Int):=by rw[qv (x:=(a.length:Int)-((n+2:Nat):Int)) (Z) (Z),qv (Z) (Z)]; omega
 have e4:qo (((a.length-(n+2)+1:Nat):Int)-1)=((a.length-(n+2):Nat):Int):=im1 _ (Z)
 have e5:qo (s:Int)=s:=qv (Z) (Z)
 have e6:qo (0-(s:Int)) = -(s:Int):=by rw[qv (Z) (Z)]; omega
 unfold Ui
 simp only[e1,e2,bj,iG I]
 rw[vK _ (Z) (Z),zt hs]
 simp only[es]
 rw[zt hu,zt J]
 simp only[e3,e4,e5,e6,zA,zW,Nat.zero_add,qF,List.take_length,hdn,hbn]
 rw[T.run_mk _ (Z) (Z) (Z) (Z),xi rfl,b9 _ rfl rfl rfl,b9 _ rfl rfl rfl,xi rfl,Gg]
 have zmY:d.take (n+2)=d:=zI (Z)
 simp only[zmY]
 rw[zt hr]
 simp only[List.take_length]
 rw[xi rfl,xi rfl,zt (bE xq hxq (Z)),Xp _ (Z) (Z) (Z)]
 have ec:jG (e:=.int .u32) 0 ((n+2:Nat):Int) xu=xu.take (n+2):=by unfold jG; simp only[zA,Int.toNat_zero,qF]
 have hxt:nv (xu.take (n+2))=nv xu:=by
  have h1:=ng xu (n+2) (Z)
  have M:=Xi hxu (n+2) (Z) (Nat.lt_trans hxlt (by rw[<- hbn]; exact z9w))
  rw[M]at h1; omega
 rw[ec]
 have hsh:(ma (xu.take (n+2)) (-(s:Int))).run=some (vN (nv xu / 2 ^ s)):=by
  rcases qB s with z | z
  ·subst z
   have:=GM (xu.take (n+2)) (WY hxu _) (by simp; omega) 0 (Z)
   rw[hxt]at this
   simpa using this
  ·have:=GL (xu.take (n+2)) (WY hxu _) (by simp; omega) s (Z) z
   rw[hxt]at this
   exact this
 rw[zt hsh,xz,f2,f1]
theorem z8a{A:Nat}(k:Nat)(h:(vN A).length=k+1):lm (vN A) k≠0:=by
 intro hz
 have h1:=ve (vN A) k
 rw[gH (Z),hz,Nat.mul_zero,qH,ji]at h1
 have M:=bV (wH A) k
 have:=uD.2 (show A<4294967296 ^ k by omega)
 omega
theorem il(a b:List Int)(ha:qx a)(I:qx b)(la:a.length<=100000000)(lb:b.length<=100000000) :
  (dt a b).run=some (if nv b=0 then([],[],false)else(vN (nv a / nv b),vN (nv a % nv b),true)):=by
 have qa:=vJ ha
 have qb:=vJ I
 unfold dt
 rw[zt (bE a ha (Z)),zt (bE b I (Z))]
 generalize nv a=A at *
 generalize nv b=hI at *
 by_cases hB:hI=0
 ·subst hB
  rw[gI]; simp
 ·have jX:(vN hI).length≠0:=by
   intro h
   exact hB (dv.1 (V h))
  rw[if_neg hB,j6 (by simpa using jX),zt (JL _ _ (wH A) (wH hI) (Z) (Z)),ji,ji]
  by_cases wL:A<hI
  ·rw[vG (by unfold DU; rw[if_pos wL]; rfl),zt (tC _ (wH A) (Z)),xz,ji,qI wL,qS wL,gI]
  ·rw[j6 (by unfold DU; rw[if_neg wL]; split<;>simp)]
   by_cases h1:(vN hI).length=1
   ·-- by one limb
    have FT:vN hI=[(hI:Int)]:=by
     rw[XW hB]at h1 ⊢
     have:hI / 4294967296=0:=by
      have:(vN (hI / 4294967296)).length=0:=by simpa using h1
      exact dv.1 (V this)
     rw[this,gI]
     congr 1; omega
    have hBl:hI<4294967296:=by
     have:=uD.1 (Nat.le_of_eq h1)
     simpa using this
    have e0:nth (vN hI) 0 0=(hI:Int):=by rw[FT]; rfl
    have hm:=zV A (zO hB)
    have hs:=Wy (vN A) (wH A) (Z) hI (Z) hBl
    rw[ji]at hs
    rw[vG (by rw[h1]; rfl),vK _ (Z) (Z)]
    simp only[bj,e0]
    rw[zt hs]
    simp only[ly (show A % hI<18446744073709551616 by omega)]
    rw[zt (V9 _ (Z)),xz]
   ·obtain⟨n,hn⟩:∃ n,(vN hI).length=n+2:=⟨(vN hI).length-2,Z⟩
    have hle:(vN hI).length<=(vN A).length:=by
     rcases Nat.lt_or_ge (vN A).length (vN hI).length with h | h
     ·exact absurd (Jc h) wL
     ·exact h
    have R:=CH (vN A) (vN hI) (wH A) (wH hI) (Z) n hn hle (z8a (n+1) (Z))
    rw[ji,ji]at R
    rw[j6 (by simp; omega),zt R,xz]
theorem JM(a b:List Int)(ha:qx a)(I:qx b)(la:a.length<=100000000)(lb:b.length<=100000000):(XT a b).run=some (vN (zL (nv a) (nv b))):=by
 have qa:=vJ ha
 have qb:=vJ I
 unfold XT
 rw[zt (tC a ha (Z)),zt (tC b I (Z))]
 generalize nv a=A at *
 generalize nv b=hI at *
 have key:(YU (vN A,vN hI)).run=some (vN (zL A hI)):=by
  have:=X9 (r:=rG) (λs:List Int×List Int=>∃ A hI:Nat,s=(vN A,vN hI)/\(vN A).length<=100000000/\(vN hI).length<=100000000)
   (λs=>nv s.2) (λs=>vN (zL (nv s.1) (nv s.2))) ?_ (s:=(vN A,vN hI)) ⟨A,hI,rfl,Z,Z⟩
  ·rw[ji,ji]at this; exact this
  ·rintro _ ⟨A,hI,rfl,hA,hB'⟩
   simp only[ji]
   by_cases hB:hI=0
   ·right
    subst hB
    unfold rG
    rw[gI]; simp
   ·left
    have J:=il (vN A) (vN hI) (wH A) (wH hI) hA hB'
    rw[ji,ji,if_neg hB]at J
    have hm:=zV A (zO hB)
    have jX:(vN hI).length≠0:=λh=>hB (dv.1 (V h))
    refine⟨(vN hI,vN (A % hI)),?_,⟨hI,A % hI,rfl,hB',?_⟩,by simpa using hm,?_⟩
    ·unfold rG
     rw[vG (by simp; omega),zt J,xz]
    ·have:(vN (A % hI)).length<=(vN hI).length:=uD.2 (Nat.lt_trans hm (uD.1 (zJ _)))
     omega
    ·simp only[ji]
     rw[Nat.gcd_comm,<- Nat.gcd_rec,Nat.gcd_comm]
 rw[zt key,xz]
theorem z2A:qx [(1:Int)]:=by
 intro x N; simp at N; omega
@[simp] theorem C8:zb (.int .u8)=(0:Int):=rfl
theorem z5h(r:Nat):uq ([48,49,50,51,52,53,54,55,56,57]:zx) ((r % 10:Nat):Int)=((48+r % 10:Nat):Int):=by
 have key:∀ d:Fin 10,uq ([48,49,50,51,52,53,54,55,56,57]:zx) ((d.val:Nat):Int)=((48+d.val:Nat):Int):=xm
 exact key ⟨r % 10,Z⟩
theorem Ry(q:List Int)(rest:Nat)(hr:rest<4294967296)(xs:List Int)(N:xs.length<=1000000000):(ZU q ((rest:Int),0,xs)).run=some (xs++Q2 9 rest):=by
 have:=X9 (r:=iw q) (λs:Int×Int×List Int=>∃ (r k:Nat),s.1=(r:Int)/\r<4294967296/\s.2.1=(k:Int)/\k<=9/\s.2.2.length<=1000000000+k)
  (λs=>9-s.2.1.toNat) (λs=>s.2.2++Q2 (9-s.2.1.toNat) s.1.toNat) ?_ (s:=((rest:Int),0,xs)) ⟨rest,0,rfl,hr,rfl,Z,Z⟩
 ·unfold ZU
  grind
 ·rintro⟨_,_,ys⟩ ⟨r,k,rfl,h1,rfl,M,h3⟩
  simp only at h3 ⊢
  by_cases hk:k<9
  ·left
   have e1:xJ (r:Int) 10=((r % 10:Nat):Int):=by rw[Xy (Z)]; rfl
   have e2:gK (xI (r:Int) 10)=((r / 10:Nat):Int):=by rw[Xx (Z)]; exact K4 (n:=r / 10) (Z)
   refine⟨(((r / 10:Nat):Int),((k+1:Nat):Int),ys++[((48+r % 10:Nat):Int)]),?_,⟨r / 10,k+1,rfl,Z,rfl,Z,xy⟩,xy,?_⟩
   ·unfold iw
    simp only[e1,z5h]
    rw[vG (xy)]
    simp(disch:=omega) [oI]
   ·simp only[zA]
    rw[show 9-k=(9-(k+1))+1 by omega,Q2]
    simp
  ·right
   have:k=9:=Z
   subst this
   unfold iw
   simp[Q2]
theorem BW(n j:Nat)(h:n<4294967296 ^ j):(blk n).length<=18*j:=by
 induction j generalizing n with
 | zero =>
  have:n=0:=by simpa using h
  subst this; rw[QG]; simp
 | succ j ih =>
  by_cases hn:n=0
  ·grind
  ·rw[Km hn]
   by_cases M:n / 1000000000=0
   ·rw[M,QG]; simp[Fk]; omega
   ·rw[Km M]
    have h3:n / 1000000000 / 1000000000<4294967296 ^ j:=by
     grind
    have:=ih _ h3
    simp[Fk]; omega
theorem IH(n:Nat)(hn:(vN n).length<=1000000):(ZT (vN n,[])).run=some (blk n):=by
 have hbl:=BW n (vN n).length (uD.1 (zJ _))
 have:=X9 (r:=iv) (λs:List Int×List Int=>∃ m:Nat,s.1=vN m/\(vN m).length<=1000000/\s.2.length+(blk m).length<=18000000)
  (λs=>nv s.1) (λs=>s.2++blk (nv s.1)) ?_ (s:=(vN n,[])) ⟨n,rfl,hn,xy⟩
 ·unfold ZT
  simpa using this
 ·rintro⟨_,xs⟩ ⟨m,rfl,h1,M⟩
  simp only[ji]at M ⊢
  by_cases hm:m=0
  ·right
   subst hm
   unfold iv
   rw[gI,QG]; simp
  ·left
   have jX:(vN m).length≠0:=λh=>hm (dv.1 (V h))
   have hs:(pe (vN m) 1000000000).run=some (vN (nv (vN m) / 1000000000),((nv (vN m) % 1000000000:Nat):Int)):=Wy (vN m) (wH m) (Z) 1000000000 (Z) (Z)
   rw[ji]at hs
   have hbm:=Km hm
   have hg:=Ry (vN (m / 1000000000)) (m % 1000000000) (Z) xs (Z)
   have hlen:(vN (m / 1000000000)).length<=(vN m).length:=uD.2 (zG (qK _ _) (uD.1 (zJ _)))
   refine⟨(vN (m / 1000000000),xs++Q2 9 (m % 1000000000)),?_,⟨m / 1000000000,rfl,Z,?_⟩,?_,?_⟩
   ·unfold iv
    rw[vG (xy),zt hs]
    rw[b9 _ rfl rfl rfl,xi rfl,zt hg,b9 _ rfl rfl rfl,xi rfl,xz]
   ·grind
   ·simp only[ji]; omega
   ·simp only[ji]
    grind
theorem SO(l:List Int)(z:Nat)(R:l≠[])(zfR:∀ x,l.getLast? = some x->x≠48)(hn:l.length+z<=100000000) :
  (Ud ((0,(l++X z 48).length),l++X z 48)).run=some ((0,l.length),l++X z 48):=by
 generalize hX:l++X z 48=zC
 have hXl:zC.length=l.length+z:=by rw[<- hX]; simp
 have Wp:0<l.length:=qT.2 R
 have RH:∀ p:Nat,wi zC p 0=if p<l.length then wi l p 0 else if p<l.length+z then 48 else 0:=by
  intro p
  unfold wi
  grind
 have:=X9 (r:=iA) (λs:(Nat×Nat)×List Int=>∃ k:Nat,s.1=(0,l.length+k)/\k<=z/\s.2=zC) (λs=>s.1.2) (λ_=>((0,l.length),zC)) ?_ (s:=((0,zC.length),zC)) ⟨z,by rw[hXl],zJ _,rfl⟩
 ·exact this
 ·rintro⟨w,y⟩ ⟨k,h1,hk,M⟩
  simp only at h1 M
  rw[h1,M]
  have e1:qo (((l.length+k:Nat):Int)-1)=((l.length+k-1:Nat):Int):=by rw[qv (Z) (Z)]; omega
  have hg:=RH (l.length+k-1)
  cases k with
  | zero =>
   right
   have T3:wi l (l.length-1) 0≠48:=by
    refine zfR _ ?_
    rw[List.getLast?_eq_getElem?]
    unfold wi
    grind
   rw[qH]at hg
   rw[if_pos (Z)]at hg
   unfold iA
   simp only[qH]at e1 ⊢
   simp only[e1,zA,Nat.zero_add,C8,hg]
   rw[xi (λ_=>⟨⟨Z,Z⟩,⟨rfl,Z⟩⟩),j6 (by simp[T3]),xi rfl,xi rfl,xz]
  | succ k =>
   left
   refine⟨((0,l.length+k),zC),?_,⟨k,rfl,Z,rfl⟩,qz,rfl⟩
   unfold iA
   simp only[e1,zA,Nat.zero_add,C8,hg]
   rw[xi (λ_=>⟨⟨Z,Z⟩,⟨rfl,Z⟩⟩),vG (by simp; omega),Xp _ (Z) (Z) (Z),xi rfl,xi rfl,xz]
   simp
theorem Fo(xs:List Int)(n:Nat)(hn:n<=xs.length)(N:xs.length<=1000000000):∃ ys:List Int,(kh (0,n) xs).run=some ys/\ys.length=xs.length/\ys.take n=(xs.take n).reverse:=by
 have e0:qo ((n:Int)-1)=(n:Int)-1:=qv (Z) (Z)
 have loop:∃ ys:List Int,(cQ ((0,n),0,(n:Int)-1,xs)).run=some ys/\ys.length=xs.length/\∀ p,p<n->ys[p]? = xs[n-1-p]? := by
  refine T.ct (λs:(Nat×Nat)×Int×Int×List Int=>s.1=(0,n)/\∃ i:Nat,s.2.1=(i:Int)/\s.2.2.1=(n:Int)-1-(i:Int)/\i<=n/\s.2.2.2.length=xs.length/\2*i<=n+1/\∀ p,p<n->s.2.2.2[p]? = if p<i\/n<p+i+1 then xs[n-1-p]? else xs[p]?)
   (λs=>n-s.2.1.toNat) _ ?_ ⟨rfl,0,rfl,qz,Z,rfl,Z,λp hp=>by rw[if_neg (Z)]⟩
  rintro⟨_,_,_,zs⟩ ⟨rfl,i,rfl,rfl,hi,R,h2i,hv⟩
  simp only at R hv ⊢
  by_cases wL:(i:Int)<(n:Int)-1-(i:Int)
  ·left
   have hj:((n:Int)-1-(i:Int)).toNat=n-1-i:=Z
   have ej:qo ((n:Int)-1-(i:Int)-1)=(n:Int)-1-((i+1:Nat):Int):=by rw[qv (Z) (Z)]; omega
   refine⟨((0,n),((i+1:Nat):Int),(n:Int)-1-((i+1:Nat):Int),(zs.set i (wi zs (n-1-i) 0)).set (n-1-i) (wi zs i 0)),?_,⟨rfl,i+1,rfl,rfl,Z,by simpa using R,Z,?_⟩,by simp; omega⟩
   ·unfold ja
    simp only[hj,zA,Nat.zero_add,C8,i1 i (Z),ej]
    rw[vG (decide_eq_true wL),vK _ (Z) (Z),ft _ rfl (Z),vK _ (Z) (Z),ft _ rfl (Z),vK _ (Z) (Z),ft _ rfl (Z),vK _ (Z) (Z),ft _ (qz) (by simp; omega),xi rfl,yU _ (qz),xz]
   ·intro p hp
    have g1:=hv i (Z)
    have g2:=hv (n-1-i) (Z)
    rw[if_neg (Z)]at g1 g2
    simp only[List.getElem?_set,List.length_set]
    by_cases c1:n-1-i=p
    ·rw[if_pos c1,if_pos (Z),if_pos (Z)]
     unfold wi
     grind
    ·rw[if_neg c1]
     by_cases c2:i=p
     ·rw[if_pos c2,if_pos (Z),if_pos (Z)]
      unfold wi
      grind
     ·grind
  ·right
   refine⟨zs,?_,R,λp hp => ?_⟩
   ·unfold ja
    rw[j6 (decide_eq_false wL),yU _ rfl,xz]
   ·grind
 obtain⟨ys,hr,R,hv⟩:=loop
 refine⟨ys,?_,R,?_⟩
 ·unfold kh
  rw[yU _ rfl,yU _ rfl,e0,zt hr,yU _ rfl,xz]
 ·apply List.ext_getElem?
  intro p
  by_cases hp:p<n
  ·have ZJ:(xs.take n).length=n:=by simp; omega
   rw[qW,if_pos hp,hv p hp,List.getElem?_reverse (Z),ZJ,qW,if_pos (Z)]
  ·rw[qR (by simp; omega),qR (by simp; omega)]
theorem H6(a:List Int)(ha:qx a)(la:a.length<=1000000):(lZ a).run=some (pr (nv a)):=by
 have qa:=vJ ha
 unfold lZ
 rw[zt (tC a ha (Z))]
 generalize nv a=n at *
 by_cases hn:n=0
 ·subst hn; rw[gI]; simp[pr]
 ·have jX:(vN n).length≠0:=λh=>hn (dv.1 (V h))
  rw[j6 (by simpa using jX),b9 _ rfl rfl rfl,yU _ rfl,zt (IH n (Z))]
  have hbl:=BW n (vN n).length (uD.1 (zJ _))
  obtain⟨z,hz⟩:=Tw n
  have hzl:=congrArg List.length hz
  rw[List.length_append,zW]at hzl
  have vU:=SO (rd n) z (za3 hn) (z8C n) (Z)
  rw[<- hz]at vU
  obtain⟨ys,hr,R,hv⟩:=Fo (blk n) (rd n).length (Z) (Z)
  rw[yU _ rfl,yU _ rfl,zt vU]
  simp only[Gg]
  rw[xi rfl,xi rfl,zt hr,yU _ R.symm,xz]
  simp only[Nat.zero_add,qF]
  rw[hv,hz,List.take_left,<- TR]
  unfold pr
  rw[if_neg hn]
def Xk(neg:Bool)(n d:Nat):Rat:=if n=0\/d=0 then(false,[],[1],())else(neg,vN (n / zL n d),vN (d / zL n d),())
def zkJ(k:Nat)(a:Rat):Prop:=qx a.2.1/\qx a.2.2.1/\a.2.1.length<=k/\a.2.2.1.length<=k
theorem OL:vN 1=[1]:=by rw[XW (Z),show 1 / 4294967296=0 from rfl,gI]; rfl
theorem dL{m n:Nat}(h:m<=n):(vN m).length<=(vN n).length:=uD.2 (zG h (uD.1 (zJ _)))
theorem z8z(neg:Bool)(n d k:Nat)(hk:1<=k)(hn:(vN n).length<=k)(J:(vN d).length<=k):zkJ k (Xk neg n d):=by
 unfold Xk
 split
 ·exact⟨vF,z2A,qz,xy⟩
 ·exact⟨wH _,wH _,zQ (dL (qK _ _)) hn,zQ (dL (qK _ _)) J⟩
theorem Lu(neg:Bool)(n d:List Int)(hn:qx n)(J:qx d)(ln:n.length<=100000000)(ld:d.length<=100000000):(rM neg n d).run=some (Xk neg (nv n) (nv d)):=by
 have qn:=vJ hn
 have qd:=vJ J
 unfold rM
 rw[zt (tC n hn (Z)),zt (tC d J (Z))]
 generalize nv n=hx at *
 generalize nv d=D at *
 unfold Xk
 by_cases h:hx=0\/D=0
 ·rw[if_pos h]
  have e:(((vN hx).length:Int)==0||((vN D).length:Int)==0)=true:=by
   rcases h with rfl | rfl<;>simp[gI]
  have h1:(iu 1).run=some (vN 1):=V9 1 (Z)
  rw[vG e,zt h1,xz,OL]
 ·rw[if_neg h]
  have hN:hx≠0:=λz=>h (.inl z)
  have hD:D≠0:=λz=>h (.inr z)
  have n1:(vN hx).length≠0:=λh=>hN (dv.1 (V h))
  have n2:(vN D).length≠0:=λh=>hD (dv.1 (V h))
  have e:(((vN hx).length:Int)==0||((vN D).length:Int)==0)=false:=by rw[Bool.or_eq_false_iff]; exact⟨xy,xy⟩
  have hg:=JM (vN hx) (vN D) (wH hx) (wH D) (Z) (Z)
  rw[ji,ji]at hg
  have hgp:zL hx D≠0:=λz=>hN (Nat.gcd_eq_zero_iff.1 z).1
  have T3:(vN (zL hx D)).length<=100000000:=zQ (dL (xF D (zO hN))) (Z)
  have h1:=il (vN hx) (vN (zL hx D)) (wH hx) (wH _) (Z) T3
  have M:=il (vN D) (vN (zL hx D)) (wH D) (wH _) (Z) T3
  rw[ji,ji,if_neg hgp]at h1 M
  rw[j6 e,zt hg,zt h1]
  rw[zt M,xz]
theorem z09(n d:Nat)(h:zL n d≠0):zL (n / zL n d) (d / zL n d)=1:=by
 have:=Nat.gcd_mul_left (zL n d) (n / zL n d) (d / zL n d)
 rw[Nat.mul_div_cancel' (Nat.gcd_dvd_left n d),Nat.mul_div_cancel' (Nat.gcd_dvd_right n d)]at this
 have M:zL n d*zL (n / zL n d) (d / zL n d)=zL n d*1:=Z
 exact qZ (zO h) M
theorem SF(neg:Bool)(n d:Nat):Xk (Xk neg n d).1 (nv (Xk neg n d).2.1) (nv (Xk neg n d).2.2.1)=Xk neg n d:=by
 by_cases h:n=0\/d=0
 ·have e:Xk neg n d=(false,[],[1],()):=by unfold Xk; rw[if_pos h]
  rw[e]; rfl
 ·have e:Xk neg n d=(neg,vN (n / zL n d),vN (d / zL n d),()):=by unfold Xk; rw[if_neg h]
  rw[e]
  have hn:n≠0:=λz=>h (.inl z)
  have J:d≠0:=λz=>h (.inr z)
  have hg:zL n d≠0:=λz=>hn (Nat.gcd_eq_zero_iff.1 z).1
  have h1:n / zL n d≠0:=Nat.div_ne_zero_iff.2 ⟨hg,xF d (zO hn)⟩
  have M:d / zL n d≠0:=Nat.div_ne_zero_iff.2 ⟨hg,Nat.gcd_le_right n (zO J)⟩
  simp only[ji]
  unfold Xk
  rw[if_neg (xy),z09 n d hg,Nat.div_one,Nat.div_one]
def norm(a:Rat):Rat:=Xk a.1 (nv a.2.1) (nv a.2.2.1)
theorem zcO(n k:Nat)(h:(vN n).length<=k):(pr n).length<=18*k+1:=by
 unfold pr
 split
 ·simp
 ·obtain⟨z,hz⟩:=Tw n
  have h1:=BW n k (uD.1 h)
  have M:=congrArg List.length hz
  rw[List.length_append]at M
  rw[TR]
  simp only[ko,List.length_map,List.length_reverse]
  omega
end Go.AM.Lf
namespace Go.AM
namespace T
variable {α β σ ρ:Type}
theorem mn{t:T α}{Q:α->Prop}:t.wp Q↔∃ a,t.run=some a/\Q a:=⟨λh=>by obtain⟨a,h1,M⟩:=FG h; exact⟨a,yw.2 h1,M⟩,λ⟨a,h1,M⟩=>K3 (yw.1 h1) M⟩
theorem bF{t:T α}{a:α}{Q:α->Prop}(h:t.run=some a)(k:Q a):t.wp Q:=mn.2 ⟨a,h,k⟩
theorem zi{a:α}{Q:α->Prop}(h:Q a):(ret a).wp Q:=h
theorem zh{b:Bool}{t e:T α}{Q:α->Prop}(h1:b=true->t.wp Q)(M:b=false->e.wp Q):(ite b t e).wp Q:=⟨h1,M⟩
theorem uy{b:Bool}{t e:T α}{Q:α->Prop}(h:b=true)(k:t.wp Q):(ite b t e).wp Q:=by subst h; exact⟨λ_=>k,nofun⟩
theorem wM{b:Bool}{t e:T α}{Q:α->Prop}(h:b=false)(k:e.wp Q):(ite b t e).wp Q:=by subst h; exact⟨nofun,λ_=>k⟩
theorem zj{p:Prop}{t:T α}{Q:α->Prop}(h:p)(k:t.wp Q):(W p t).wp Q:=⟨h,k⟩
theorem qw{A:Type}{i:Int}{l:List A}{t:T α}{Q:α->Prop}(h:0<=i/\i<(l.length:Int))(k:t.wp Q):(oI i l t).wp Q:=⟨h,k⟩
theorem za{A:Type}{l:List A}{t:T α}{Q:α->Prop}(k:t.wp Q):(U l t).wp Q:=⟨rfl,k⟩
theorem ze{A:Type}{l:List A}{t:T α}{Q:α->Prop}(k:t.wp Q):(oC l t).wp Q:=⟨⟨rfl,rfl,rfl⟩,k⟩
theorem uo{a b:Nat}{t:T α}{Q:α->Prop}(h:a=b)(k:t.wp Q):(oM a b t).wp Q:=⟨⟨h,rfl,h⟩,h,k⟩
theorem vY{A:Type}{l:List A}{k:Nat}{t:T α}{Q:α->Prop}(h:(l.length+1)*k<=140737488355328)(w:t.wp Q):(oA l k t).wp Q:=⟨⟨rfl,rfl,rfl,h⟩,w⟩
theorem vk{a b:zx}{t:T α}{Q:α->Prop}(h:a.length+b.length<=4611686018427387904)(k:t.wp Q):(oK a b t).wp Q:=⟨h,k⟩
theorem xn{t:T α}{f:α->T β}{Q:β->Prop}(h:t.wp λa=>(f a).wp Q):(t.bind f).wp Q:=by
 obtain⟨a,h1,M⟩:=mn.1 h
 obtain⟨b,M,h3⟩:=mn.1 M
 exact bF ((zt h1 f).trans M) h3
theorem wm{t:T α}{P Q:α->Prop}(h:t.wp P)(k:∀ a,P a->Q a):t.wp Q:=by
 obtain⟨a,h1,M⟩:=mn.1 h
 exact bF h1 (k a M)
theorem vX{r:σ->T (σ⊕ρ)}{Q:ρ->Prop}(hb:σ->Prop)(μ:σ->Nat){s:σ}(hs:hb s)
  (h:∀ s,hb s->(r s).wp λz=>match z with | .inl s'=>hb s'/\μ s'<μ s | .inr y=>Q y):(loop r s).wp Q:=by
 generalize hm:μ s=m
 induction m using zX generalizing s with
 | _ m ih =>
  obtain⟨z,h1,M⟩:=mn.1 (h s hs)
  cases z with
  | inl s' =>
   obtain⟨a,h3,h4⟩:=mn.1 (ih (μ s') (by have:=M.2; omega) M.1 rfl)
   exact bF ((XS h1).trans h3) h4
  | inr y=>exact bF (p9 h1) M
theorem vQ{f:α->T σ}{g:β->T σ}{z:α⊕β}{Q:σ->Prop}(h1:∀ a,z=.inl a->(f a).wp Q)(M:∀ b,z=.inr b->(g b).wp Q):(xM f g z).wp Q:=by
 cases z with
 | inl a=>exact h1 a rfl
 | inr b=>exact M b rfl
def le(t t':T α):Prop:=∀ v,t.leads v->t'.leads v
theorem le_rfl{t:T α}:le t t:=λ_ h=>h
theorem z6d{t t':T α}{f f':α->T β}(h:le t t')(k:∀ a,le (f a) (f' a)):le (t.bind f) (t'.bind f'):=λv hv=>by
 obtain⟨a,h1,M⟩:=zd.1 hv
 exact zd.2 ⟨a,h a h1,k a v M⟩
theorem zbV{c:Bool}{t t' e e':T α}(h:le t t')(k:le e e'):le (ite c t e) (ite c t' e'):=λv hv=>hv.imp (λx=>⟨x.1,h v x.2⟩) λx=>⟨x.1,k v x.2⟩
theorem zbW{p:Prop}{t t':T α}(h:le t t'):le (W p t) (W p t'):=λv hv=>⟨hv.1,h v hv.2⟩
theorem z6f{r r':σ->T (σ⊕ρ)}{s:σ}(h:∀ s,le (r s) (r' s)):le (loop r s) (loop r' s):=λv hv=>by
 obtain⟨n,hn⟩:=(eQ _).1 hv
 refine(eQ _).2 ⟨n,?_⟩
 clear hv
 induction hn with
 | done k=>exact .done (h _ _ k)
 | step k _ ih=>exact .step (h _ _ k) ih
theorem z6e{f f':α->T σ}{g g':β->T σ}{z:α⊕β}(h:∀ a,le (f a) (f' a))(k:∀ b,le (g b) (g' b)):le (xM f g z) (xM f' g' z):=by
 cases z with
 | inl a=>exact h a
 | inr b=>exact k b
theorem zbU{b b':(σ->T ρ)->σ->T ρ}(h:∀ F F',(∀ y,le (F y) (F' y))->∀ x,le (b F x) (b' F' x))(x:σ):le (fix b x) (fix b' x):=λv hv=>by
 have key:∀ n x,le (Wo b n x) (Wo b' n x):=by
  intro n
  induction n with
  | zero=>exact λ_=>le_rfl
  | succ n ih=>exact h _ _ ih
 obtain⟨n,hn⟩:=(lV b).1 hv
 exact(lV b').2 ⟨n,λm hm=>key m x v (hn m hm)⟩
theorem se{b:(σ->T ρ)->σ->T ρ}(hb:σ->Prop)(μ:σ->Nat)(Q:σ->ρ->Prop)(hm:∀ g g',(∀ y,le (g y) (g' y))->∀ x,le (b g x) (b g' x))
  (h:∀ x,hb x->∀ g:σ->T ρ,(∀ y,hb y->μ y<μ x->(g y).wp (Q y))->(b g x).wp (Q x)) {x:σ} (N:hb x):(fix b x).wp (Q x):=by
 have up:∀ n x,le (Wo b n x) (Wo b (n+1) x):=by
  intro n
  induction n with
  | zero=>exact λ_ _ h=>h.elim
  | succ n ih=>exact hm _ _ ih
 have ups:∀ n m,n<=m->∀ x,le (Wo b n x) (Wo b m x):=by
  intro n m hnm
  induction hnm with
  | refl=>exact λ_=>le_rfl
  | step _ ih=>exact λx v hv=>up _ x v (ih x v hv)
 have key:∀ n x,hb x->μ x<n->(Wo b n x).wp (Q x):=by
  intro n
  induction n with
  | zero=>intro x _ h; omega
  | succ n ih=>exact λx N hn=>h x N _ λy hy wL=>ih y hy (Z)
 obtain⟨a,h1,M⟩:=FG (key _ x N (Nat.lt_succ_self _))
 exact K3 ((lV b).2 ⟨_,λm hm=>ups _ m hm x a h1⟩) M
theorem Gw{t:T α}{Q:α->Prop}{a:α}(h:t.wp Q)(k:t.run=some a):Q a:=by
 obtain⟨b,h1,M⟩:=mn.1 h
 cases h1.symm.trans k
 exact M
class Sp (t:T α) (pre:outParam Prop) (post:outParam (α->Prop)):Prop where sp:pre->t.wp post
theorem z8{t:T α}{f:α->T β}{pre:Prop}{post:α->Prop}{Q:β->Prop}[s:Sp t pre post](h:pre)(k:∀ a,post a->(f a).wp Q):(t.bind f).wp Q :=
 xn (wm (s.sp h) k)
theorem vA{t:T α}{pre:Prop}{post:α->Prop}{Q:α->Prop}[s:Sp t pre post](h:pre)(k:∀ a,post a->Q a):t.wp Q:=wm (s.sp h) k
end T
open PL Lf
theorem j3(x:Int):qo x=(x+9223372036854775808) % 18446744073709551616-9223372036854775808:=IntKind.wrap_i64 x
theorem fh{a:List Int}(h:qx a)(i:Nat)(x:Int):qx (a.set i (gK x)):=HT h i (by rw[Zc]; omega) (by rw[Zc]; omega)
theorem yE{α:Type}(l:List α):xK 0 (List.take (0+l.length) l)=l:=qz
theorem tK{k:IntKind}:zb (.int k)=0:=rfl
namespace T
theorem go{p:Prop} (h:p:=by
 intros
 repeat' (with_reducible first
  | refine T.zi ?_
  | refine T.zh (λ_ => ?_) (λ_ => ?_)
  | refine T.za ?_
  | refine T.ze ?_
  | refine T.uo ?_ ?_
  | refine T.qw ?_ ?_
  | refine T.vY ?_ ?_
  | refine T.vk ?_ ?_
  | refine T.zj ?_ ?_
  | refine T.vQ (λ_ _ => ?_) (λ_ _ => ?_)
  | refine T.z8 ?_ (λ_ _ => ?_)
  | refine T.vA ?_ (λ_ _ => ?_)
  | refine T.xn ?_
  | dsimp only)
 all_goals grind [xe,uN,ez,jy,QL,j3,fh,vM,vF,gR,yE,fg,tK,List.length_set,List.take_length]):p:=h
theorem mono{p:Prop} (h:p:=by
 intros
 repeat' (with_reducible first
  | exact le_rfl
  | apply_assumption
  | refine z6d ?_ (λ_ => ?_)
  | refine zbV ?_ ?_
  | refine zbW ?_
  | refine z6f (λ_ => ?_)
  | refine z6e (λ_ => ?_) (λ_ => ?_)
  | refine zbU (λ_ _ _ _ => ?_) _
  | dsimp only[oI,U,oC,oM,oA,oK])):p:=h
theorem lp{σ ρ:Type}{r:σ->T (σ⊕ρ)}{Q:ρ->Prop}(hb:σ->Prop)(μ:σ->Nat){s:σ}(hs:hb s:=by grind)
  (h:∀ s,hb s->(r s).wp λz=>match z with | .inl s'=>hb s'/\μ s'<μ s | .inr y=>Q y:=by
 intros
 repeat' (with_reducible first
  | refine T.zi ?_
  | refine T.zh (λ_ => ?_) (λ_ => ?_)
  | refine T.za ?_
  | refine T.ze ?_
  | refine T.uo ?_ ?_
  | refine T.qw ?_ ?_
  | refine T.vY ?_ ?_
  | refine T.vk ?_ ?_
  | refine T.zj ?_ ?_
  | refine T.vQ (λ_ _ => ?_) (λ_ _ => ?_)
  | refine T.z8 ?_ (λ_ _ => ?_)
  | refine T.vA ?_ (λ_ _ => ?_)
  | refine T.xn ?_
  | dsimp only)
 all_goals grind [xe,uN,ez,jy,QL,j3,fh,vM,vF,gR,yE,fg,tK,List.length_set,List.take_length]):(loop r s).wp Q:=T.vX hb μ hs h
end T
open T
instance (a:List Int):Sp (vV a) (qx a/\a.length<=4000000000) (λr=>qx r/\r.length<=a.length):=⟨λh=>bF (bE a h.1 h.2) ⟨wH _,vJ h.1⟩⟩
end Go.AM
namespace Go.AM
open T PL Lf
def rg(a:Lf.Rat):Prop:=qx a.2.1/\qx a.2.2.1
def rl(a:Lf.Rat):Nat:=max a.2.1.length a.2.2.1.length
theorem KN(x:Int):wh x=x % 18446744073709551616:=FH x
def nm(a:Lf.Rat):Prop:=norm a=a
instance (d:List Int) (a:Int) (v:Int) (x3:List Int) (x4 x5:Int) (x6:List Int) (s:Int×Int×List Int):Sp (V6 d a v x3 x4 x5 x6 (x6.length:Int) s) (s.2.1=0/\qx s.2.2/\0<=a/\a+x6.length<=s.2.2.length/\s.2.2.length<=4000000000) (λr=>qx r.2/\r.2.length=s.2.2.length):=⟨λh=>by
 unfold V6 V8
 exact lp (λ(_,i,c)=>0<=i/\i<=x6.length/\qx c/\c.length=s.2.2.length) (λ(_,i,_)=>(x6.length-i).toNat)⟩
instance (d x:List Int) (s:Int×List Int):Sp (V5 d x (x.length:Int) s) (s.1=0/\qx s.2/\s.2.length=d.length+x.length/\s.2.length<=2000000000) (λr=>qx r/\r.length=s.2.length):=⟨λh=>by
 unfold V5 V7
 exact lp (λ(i,c)=>0<=i/\i<=x.length/\qx c/\c.length=s.2.length) (λ(i,_)=>(x.length-i).toNat)⟩
instance (a b:List Int):Sp (ir a b) (qx a/\qx b/\a.length+b.length<=1000000000) (λr=>qx r/\r.length<=a.length+b.length):=⟨λh=>by unfold ir; exact go⟩
instance (a b x:List Int) (s:Int×Int×List Int):Sp (V3 a b x (x.length:Int) s) (s.2.1=0/\qx s.2.2/\s.2.2.length=x.length+1/\s.2.2.length<=2000000000) (λr=>qx r.2/\r.2.length=s.2.2.length):=⟨λh=>by
 unfold V3 V4
 exact lp (λ(_,i,c)=>0<=i/\i<=x.length/\qx c/\c.length=s.2.2.length) (λ(_,i,_)=>(x.length-i).toNat)⟩
instance (a b:List Int):Sp (Uc a b) (qx a/\qx b/\a.length+b.length<=1000000000) (λr=>qx r/\r.length<=max a.length b.length+1):=⟨λh=>by unfold Uc; exact go⟩
instance (a b:List Int):Sp (sJ a b) (qx a/\qx b/\a.length+b.length<=1000000000) (λr=>r=DU (nv a) (nv b)):=⟨λh=>bF (JL a b h.1 h.2.1 (Z) (Z)) rfl⟩
instance (b x:List Int) (s:Int×Int×List Int):Sp (Va b x (x.length:Int) s) (s.2.1=0/\qx s.2.2/\s.2.2.length=x.length/\s.2.2.length<=2000000000) (λr=>qx r/\r.length=s.2.2.length):=⟨λh=>by
 unfold Va Vb kS
 exact lp (λ(_,i,c)=>0<=i/\i<=x.length/\qx c/\c.length=s.2.2.length) (λ(_,i,_)=>(x.length-i).toNat)⟩
instance (a b:List Int):Sp (Uf a b) (qx a/\qx b/\a.length+b.length<=1000000000) (λr=>qx r.1/\r.1.length<=a.length):=⟨λh=>by unfold Uf; exact go⟩
instance (a:Int):Sp (iu a) (0<=a/\a<18446744073709551616) (λr=>qx r/\r.length<=2/\r=vN a.toNat):=⟨λh=>by
 obtain⟨n,rfl⟩:=qN h.1
 exact bF (V9 n (Z)) ⟨wH _,uD.2 (Z),rfl⟩⟩
instance (a b:List Int):Sp (XT a b) (qx a/\qx b/\a.length+b.length<=100000000) (λr=>r=vN (zL (nv a) (nv b))/\qx r/\r.length<=a.length+b.length):=⟨λh=>bF (JM a b h.1 h.2.1 (Z) (Z)) ⟨rfl,wH _,by
 have h1:=vJ h.1
 have M:=vJ h.2.1
 by_cases e:nv a=0
 ·rw[e,Nat.gcd_zero_left]; omega
 ·have:=dL (xF (nv b) (zO e)); omega⟩⟩
instance (a:List Int):Sp (lZ a) (qx a/\a.length<=1000000) (λr=>r.length<=18*a.length+1):=⟨λh=>bF (H6 a h.1 h.2) (zcO _ _ (vJ h.1))⟩
instance (a b:List Int):Sp (dt a b) (qx a/\qx b/\a.length+b.length<=100000000) (λr=>qx r.1/\qx r.2.1/\r.1.length<=a.length/\r.2.1.length<=a.length):=⟨λh=>bF (il a b h.1 h.2.1 (Z) (Z)) (by
 have h1:=vJ h.1
 split
 ·exact⟨vF,vF,xB _,xB _⟩
 ·exact⟨wH _,wH _,zQ (dL (qK _ _)) h1,zQ (dL (Nat.mod_le _ _)) h1⟩)⟩
instance (g:Bool) (n d:List Int):Sp (rM g n d) (qx n/\qx d/\n.length+d.length<=100000000) (λr=>rg r/\rl r<=max 1 (max n.length d.length)/\nm r/\r=Xk g (nv n) (nv d)):=⟨λh=>bF (Lu g n d h.1 h.2.1 (Z) (Z)) (by
 have:=z8z g (nv n) (nv d) (max 1 (max n.length d.length)) (Z) (by have:=vJ h.1; omega) (by have:=vJ h.2.1; omega)
 exact⟨⟨this.1,this.2.1⟩,by unfold rl; have:=this.2.2; omega,SF _ _ _,rfl⟩)⟩
instance (a:Lf.Rat):Sp (vD a) (rg a/\rl a<=50000000) (λr=>rg r/\rl r<=max 1 (rl a)/\nm r/\r=norm a):=⟨λh=>by unfold rg rl at h; unfold vD norm; refine z8 (xy) λr h=>h⟩
theorem gor{p:Prop} (h:p:=by
 intros
 repeat' (with_reducible first
  | refine T.zi ?_
  | refine T.zh (λ_ => ?_) (λ_ => ?_)
  | refine T.za ?_
  | refine T.ze ?_
  | refine T.uo ?_ ?_
  | refine T.qw ?_ ?_
  | refine T.vY ?_ ?_
  | refine T.vk ?_ ?_
  | refine T.zj ?_ ?_
  | refine T.vQ (λ_ _ => ?_) (λ_ _ => ?_)
  | refine T.z8 ?_ (λ_ _ => ?_)
  | refine T.vA ?_ (λ_ _ => ?_)
  | refine T.xn ?_
  | dsimp only)
 all_goals grind [xe,uN,ez,jy,QL,j3,fh,vM,vF,gR,yE,fg,tK,List.length_set,List.take_length,rg,rl,KN]):p:=h
instance (a:Lf.Rat):Sp (cu a) (rg a/\rl a<=50000000) (λr=>r=false->rl (norm a)<=16):=⟨λh=>by unfold cu; exact gor⟩
instance (a b:Lf.Rat):Sp (oL a b) (rg a/\rg b/\rl a+rl b<=20000000) (λr=>rg r/\rl r<=rl a+rl b+2/\nm r):=⟨λh=>by unfold oL; exact gor⟩
instance (a b:Lf.Rat):Sp (oJ a b) (rg a/\rg b/\rl a+rl b<=20000000) (λr=>rg r/\rl r<=rl a+rl b+3/\nm r):=⟨λh=>by unfold oJ; exact gor⟩
instance (a:Lf.Rat):Sp (Q1 a) (rg a/\rl a<=50000000) (λr=>rg r/\rl r<=max 1 (rl a)):=⟨λh=>by unfold Q1 Vi; exact gor⟩
instance (a b:Lf.Rat):Sp (Ux a b) (rg a/\rg b/\rl a+rl b<=10000000) (λr=>rg r/\rl r<=rl a+rl b+4/\nm r):=⟨λh=>by unfold Ux; exact gor⟩
instance (a:Lf.Rat):Sp (iI a) (rg a/\rl a<=50000000) (λ_=>True):=⟨λh=>by unfold iI; exact gor⟩
instance (a b:Lf.Rat):Sp (KG a b) (rg a/\rg b/\rl a+rl b<=10000000) (λ_=>True):=⟨λh=>by unfold KG; exact gor⟩
instance (a:Int):Sp (yT a) (-9223372036854775808<=a/\a<=9223372036854775807) (λr=>rg r/\rl r<=2):=⟨λh=>by unfold yT; exact gor⟩
instance (a b:Lf.Rat):Sp (sQ a b) (rg a/\rg b/\rl a+rl b<=10000000) (λr=>rg r.1/\rl r.1<=rl a+rl b+4/\(r.2=true->nm r.1)):=⟨λh=>by unfold sQ; exact gor⟩
end Go.AM
namespace Go.AM
open T PL Lf
theorem LX(x:Int):wu8 x=x % 256:=IntKind.wrap_u8 x
theorem sN(a:zx)(h:wK a []=false):1<=a.length:=by
 cases a with
 | nil=>exact absurd h (xm)
 | cons=>simp
theorem X7(a b:zx):(cat a b).length=a.length+b.length:=List.length_append
theorem RY(l h:Int)(a:zx):(fG l h a).length<=a.length:=by unfold fG; simp; omega
theorem z1X(a p:zx):(Da a p).length<=a.length:=by unfold Da; split<;>simp
theorem zcy(n:Nat):∀ s:zx,(CY s n).length=s.length*n:=by
 induction n with
 | zero=>simp[CY]
 | succ n ih=>intro s; rw[CY,List.length_append,ih,Nat.mul_succ]; omega
theorem MX(l h:Int)(a:zx)(h0:0<=l)(h1:l<=h)(M:h<=a.length):((fG l h a).length:Int)=h-l:=by unfold fG; simp; omega
theorem Wn(x:Lf.Rat):(x.1,x.2.1,x.2.2.1,())=x:=rfl
theorem Yb(e:Expr):Expr.mk e.kind ((Expr.num e).1,(Expr.num e).2.1,(Expr.num e).2.2.1,()) e.name e.kids=e:=by cases e; rfl
theorem US(s:zx)(i:Int):0<=uq s i/\uq s i<256:=by unfold uq; have:=(s.getD i.toNat 0).toNat_lt; omega
theorem lg{p:Prop} (h:p:=by
 intros
 repeat' (with_reducible first
  | refine T.zi ?_
  | refine T.zh (λ_ => ?_) (λ_ => ?_)
  | refine T.za ?_
  | refine T.ze ?_
  | refine T.uo ?_ ?_
  | refine T.qw ?_ ?_
  | refine T.vY ?_ ?_
  | refine T.vk ?_ ?_
  | refine T.zj ?_ ?_
  | refine T.vQ (λ_ _ => ?_) (λ_ _ => ?_)
  | refine T.z8 ?_ (λ_ _ => ?_)
  | refine T.vA ?_ (λ_ _ => ?_)
  | refine T.xn ?_
  | dsimp only)
 all_goals grind [xe,uN,ez,jy,QL,j3,fh,vM,vF,gR,yE,fg,tK,List.length_set,List.take_length,rg,rl,KN,LX,X7,RY,z1X,zcy,MX,US,wK,l8,sN]):p:=h
theorem lps{σ ρ:Type}{r:σ->T (σ⊕ρ)}{Q:ρ->Prop}(hb:σ->Prop)(μ:σ->Nat){s:σ}(hs:hb s:=by grind [xe,uN,ez,jy,QL,j3,fh,vM,vF,gR,yE,fg,tK,List.length_set,List.take_length,rg,rl,KN,LX,X7,RY,z1X,zcy,MX,US,wK,l8,sN])
  (h:∀ s,hb s->(r s).wp λz=>match z with | .inl s'=>hb s'/\μ s'<μ s | .inr y=>Q y:=by
 intros
 repeat' (with_reducible first
  | refine T.zi ?_
  | refine T.zh (λ_ => ?_) (λ_ => ?_)
  | refine T.za ?_
  | refine T.ze ?_
  | refine T.uo ?_ ?_
  | refine T.qw ?_ ?_
  | refine T.vY ?_ ?_
  | refine T.vk ?_ ?_
  | refine T.zj ?_ ?_
  | refine T.vQ (λ_ _ => ?_) (λ_ _ => ?_)
  | refine T.z8 ?_ (λ_ _ => ?_)
  | refine T.vA ?_ (λ_ _ => ?_)
  | refine T.xn ?_
  | dsimp only)
 all_goals grind [xe,uN,ez,jy,QL,j3,fh,vM,vF,gR,yE,fg,tK,List.length_set,List.take_length,rg,rl,KN,LX,X7,RY,z1X,zcy,MX,US,wK,l8,sN]):(loop r s).wp Q:=T.vX hb μ hs h
instance (c:Int) (a:zx):Sp (gV c a) (a.length<=1000000000) (λr=>r.length<=a.length):=⟨λh=>by
 unfold gV gW
 exact lps (λs=>s.length<=a.length) (λs=>s.length)⟩
instance (c:Int) (a:zx):Sp (bC c a) (a.length<=1000000000) (λr=>r.length<=a.length):=⟨λh=>by
 unfold bC bD
 exact lps (λs=>s.length<=a.length) (λs=>s.length)⟩
instance (c:den (mL .bool 256)) (a:zx):Sp (jF c a) (a.length<=1000000000) (λr=>r.length<=a.length):=⟨λh=>by
 unfold jF uz vf
 exact lps (λs=>s.length<=a.length) (λs=>s.length)⟩
instance (c:den (mL .bool 256)) (a:zx):Sp (ki c a) (a.length<=1000000000) (λr=>r.length<=a.length):=⟨λh=>by
 unfold ki uV vf
 exact lps (λs=>s.length<=a.length) (λs=>s.length)⟩
def z2x(a:zx):Bool:=decide (a.length<=1000)&&a.all λx=>decide (x.toNat<128)
theorem z2y:z2x [48,49,50,51,52,53,54,55,56,57]=true:=xm
instance (b a:zx):Sp (ca b a) (b.length<=1000000000/\z2x a=true) (λr=>r.length<=b.length):=⟨λh=>by
 unfold ca strings_trimRightByte strings_trimLeftByte strings_makeASCIISet jt jL
 simp only[z2x,Bool.and_eq_true,decide_eq_true_eq,List.all_eq_true]at h
 exact lg⟩
instance (a:zx) (s:List Int×Int):Sp (ZR a (a.length:Int) s) (a.length<=100000/\s=([],0)) (λr=>qx r/\r.length<=2*a.length+1):=⟨λh=>by
 unfold ZR ZS
 exact lps (λ(l,i)=>qx l/\0<=i/\i<=a.length/\(l.length:Int)<=2*i+1) (λ(_,i)=>(a.length-i).toNat)⟩
instance (a:zx):Sp (lY a) (a.length<=1000000000) (λr=>qx r.1/\r.1.length<=801):=⟨λh=>by have:=z2y; unfold lY; exact lg⟩
instance (n:Int) (s:List Int×Int):Sp (WQ n s) (n<=100000/\qx s.1/\s.1.length<=2/\s.2=0) (λr=>qx r/\r.length<=2+2*n.toNat):=⟨λh=>by
 unfold WQ WR
 exact lps (λ(l,i)=>qx l/\0<=i/\(i<=n\/i=0)/\(l.length:Int)<=2+2*i) (λ(_,i)=>(n-i).toNat)⟩
instance (n:Int):Sp (VK n) (n<=100000) (λr=>qx r/\r.length<=2+2*n.toNat):=⟨λh=>by unfold VK; exact lg⟩
instance (a:zx) (n:Int):Sp (sx a n) (0<=n/\n<=100000/\a.length<=1000000000) (λr=>r.length<=a.length+n.toNat+2):=⟨λh=>by unfold sx strings_Repeat; exact lg⟩
instance (a:Lf.Rat):Sp (QM a) True (λr=>r.length<=1):=⟨λ_=>by unfold QM; exact lg⟩
instance (a:Lf.Rat):Sp (gp a) (rg a/\rl a<=500000) (λr=>r.length<=40*rl a+50):=⟨λh=>by unfold gp; exact lg⟩
instance (a b:zx):Sp (strings_Cut a b) (a.length<=1000000000) (λr=>r.1.length+r.2.1.length<=a.length):=⟨λh=>by
 unfold strings_Cut DZ
 exact T.zj (Z) (T.zi (by split<;>simp<;>omega))⟩
instance (a b:zx):Sp (strings_CutPrefix a b) True (λr=>r.1.length<=a.length):=⟨λh=>by unfold strings_CutPrefix; exact lg⟩
instance (a:zx):Sp (p8 a) True (λr=>rg r.1/\rl r.1<=1700):=⟨λh=>by unfold p8; exact lg⟩
instance (s:Int×Lf.Rat):Sp (Zm s) (s.1=0/\rg s.2/\rl s.2<=5000) (λr=>match r with | .inl _=>True | .inr z=>z.1.length<=18*rl s.2+2280):=⟨λh=>by
 unfold Zm Zn
 exact lps (λ(i,a)=>0<=i/\i<=61/\a=s.2) (λ(i,_)=>(61-i).toNat)⟩
instance (a:Lf.Rat):Sp (tI a) (rg a/\rl a<=5000) (λr=>r.1.length<=18*rl a+2300):=⟨λh=>by unfold tI; exact lg⟩
theorem z4U(a:Lf.Rat)(h:rg a)(h1:UE a.2.1)(M:UE a.2.2.1)(h3:a.2.2.1≠[])(h4:a.1=true->a.2.1≠[])(h5:zL (nv a.2.1) (nv a.2.2.1)=1):nm a:=by
 unfold nm norm Xk
 obtain⟨b,n,d,u⟩:=a
 by_cases hn:nv n=0
 ·have:n=[]:=by rcases Decidable.em (n=[])with e | e; exact e; exact absurd hn (Li h.1 h1 e)
  subst this
  simp at h5 h4 ⊢
  have e:vN (nv d)=d:=CQ h.2 M
  rw[h5,OL]at e
  simp[h4,<- e]
 ·rw[if_neg (by have:=Li h.2 M h3; simp[hn,this])]
  simp only[h5,Nat.div_one]
  rw[CQ h.1 h1,CQ h.2 M]
instance (a:List Int):Sp (ZQ a) (a.length<=1000000000) (λr=>r=true->UE a):=⟨λh=>by
 unfold ZQ
 refine T.zj (λh1 => ?_) (T.zi λM x N => ?_)
 ·rw[qv (Z) (Z)]; grind [xe]
 ·obtain⟨l,rfl⟩:=List.getLast?_eq_some_iff.1 N
  rw[qv (Z) (Z),show zb (.int .u32)=(0:Int)from rfl,F5]at M
  have:(l.length:Int)+1=0\/x≠0:=by simpa using M
  omega⟩
instance (a:Lf.Rat):Sp (tq a) (rg a/\rl a<=5000000) (λr=>r=true->nm a):=⟨λh=>by
 have:¬ UE a.2.1\/¬ UE a.2.2.1\/a.2.2.1.length=0\/(a.1=true/\a.2.1.length=0)\/zL (nv a.2.1) (nv a.2.2.1)≠1\/nm a:=by
  have:=z4U a h.1
  simp only[xD]; grind
 have e:∀ g,DU (nv (vN g)) (nv (vN (Int.toNat 1)))=0->g=1:=λg h=>by rw[ji,ji]at h; unfold DU at h; grind
 unfold tq
 exact lg⟩
end Go.AM
namespace Go.AM
open T PL Lf
def ixR{α:Type}(d0:α)(b:List α)(d:α->T Bool)(e:Int):Int->T (Int⊕(Unit⊕Int))
 | a=>.ite (decide (a<e)) (oI a b<|T.bind (d (nth b a d0)) λc=>.ite c (.ret (.inr (.inr a))) (.ret (.inl (qo (a+1))))) (.ret (.inr (.inl ())))
theorem xw{α:Type}{l:List α}{i:Int}{d:α}(h0:0<=i)(h:i<l.length):nth l i d∈l:=by
 unfold nth
 rw[zP,List.getElem?_eq_getElem (Z)]
 exact List.getElem_mem _
theorem KA{α:Type}{l:List α}{x d:α}(h:x∈l):∃ i:Int,0<=i/\i<l.length/\nth l i d=x:=by
 obtain⟨k,hk,rfl⟩:=List.getElem_of_mem h
 exact⟨k,Z,Z,by unfold nth; simp[hk]⟩
theorem zgy{α:Type}(d0:α)(l:List α)(c:α->T Bool)(R:l.length<=1000000000000)(hc:∀ x∈l,(c x).wp λ_=>True) :
  (T.loop (ixR d0 l c l.length) 0).wp λr=>match r with | .inl _=>∀ x∈l,(c x).run=some false | .inr i=>0<=i/\i<l.length/\(c (nth l i d0)).run=some true:=by
 refine T.vX (λi:Int=>0<=i/\i<=l.length/\∀ j:Int,0<=j->j<i->(c (nth l j d0)).run=some false) (λi:Int=>(l.length-i).toNat) (xy) λi ⟨h0,h1,M⟩ => ?_
 refine T.zh (λh => ?_) λh => ?_
 ·have h:=uE h
  refine T.qw ⟨h0,h⟩ (T.xn ?_)
  obtain⟨b,I,_⟩:=T.mn.1 (hc _ (xw (d:=d0) h0 h))
  refine T.bF I (T.zh (λe=>T.zi ⟨h0,h,e▸I⟩) λe=>T.zi ?_)
  rw[qv (Z) (Z)]
  refine⟨⟨Z,Z,λj hj hji => ?_⟩,Z⟩
  by_cases e':j=i
  ·subst e'; exact e▸I
  ·exact M j hj (Z)
 ·refine T.zi λx N => ?_
  obtain⟨j,hj,MK,rfl⟩:=KA (d:=d0) N
  have h:=gZ h
  exact M j hj (Z)
def Ixp{α:Type}(l:List α)(c:α->T Bool)(d0:α)(r:Int):Prop:=(r = -1/\∀ x∈l,(c x).run=some false)\/(0<=r/\r<l.length/\(c (nth l r d0)).run=some true)
theorem zbR{α:Type}{d0:α}{l:List α}{c:α->T Bool}(h:l.length<=1000000000000/\∀ x∈l,(c x).wp λ_=>True) :
  (T.bind (T.loop (ixR d0 l c l.length) 0)<|xM (λ_=>T.ret (-1:Int)) λb=>T.ret b).wp (Ixp l c d0) :=
 T.xn (T.wm (zgy d0 l c h.1 h.2) λr hr=>by
  cases r with
  | inl _=>exact .inl ⟨rfl,hr⟩
  | inr i=>exact .inr hr)
def Ho{α:Type}(l:List α)(P:α->Bool->Prop)(d0:α)(r:Int):Prop:=(r = -1/\∀ x∈l,P x false)\/(0<=r/\r<l.length/\P (nth l r d0) true)
def Di{α:Type}(l:List α)(P:α->Bool->Prop)(r:Bool):Prop:=(r=false/\∀ x∈l,P x false)\/(r=true/\∃ x∈l,P x true)
theorem ixq{α:Type}{d0:α}{l:List α}{c:α->T Bool}{p:α->Prop}{P:α->Bool->Prop}[s:∀ x,Sp (c x) (p x) (P x)](h:l.length<=1000000000000/\∀ x∈l,p x) :
  (T.bind (T.loop (ixR d0 l c l.length) 0)<|xM (λ_=>T.ret (-1:Int)) λb=>T.ret b).wp (Ho l P d0) :=
 T.wm (zbR ⟨h.1,λx N=>T.wm ((s x).sp (h.2 x N)) λ_ _=>trivial⟩) λ_ hr=>hr.imp (λ⟨e,k⟩=>⟨e,λx N=>T.Gw ((s x).sp (h.2 x N)) (k x N)⟩) λ⟨h1,M,k⟩=>⟨h1,M,T.Gw ((s _).sp (h.2 _ (xw h1 M))) k⟩
theorem cnq{α:Type}{d0:α}{l:List α}{P:α->Bool->Prop}{t:T Int}(k:t.wp (Ho l P d0)):(T.bind t λa=>T.ret (decide ((0:Int)<=a))).wp (Di l P) :=
 T.xn (T.wm k λa ha=>ha.elim (λ⟨h,k⟩=>.inl ⟨decide_eq_false (Z),k⟩) λ⟨h1,M,k⟩=>.inr ⟨decide_eq_true h1,_,xw h1 M,k⟩)
instance (a:List Switch) (c:Switch->T Bool) (p:Switch->Prop) (P:Switch->Bool->Prop) [∀ x,Sp (c x) (p x) (P x)]:Sp (wa a c) (a.length<=1000000000000/\∀ x∈a,p x) (Ho a P (zb qq)):=⟨ixq⟩
instance (a:List Switch) (c:Switch->T Bool) (p:Switch->Prop) (P:Switch->Bool->Prop) [∀ x,Sp (c x) (p x) (P x)]:Sp (vE a c) (a.length<=1000000000000/\∀ x∈a,p x) (Di a P):=⟨λh=>cnq (Sp.sp h)⟩
instance (a:List Param) (c:Param->T Bool) (p:Param->Prop) (P:Param->Bool->Prop) [∀ x,Sp (c x) (p x) (P x)]:Sp (vH a c) (a.length<=1000000000000/\∀ x∈a,p x) (Ho a P (zb qf)):=⟨ixq⟩
instance (a:List Param) (c:Param->T Bool) (p:Param->Prop) (P:Param->Bool->Prop) [∀ x,Sp (c x) (p x) (P x)]:Sp (vO a c) (a.length<=1000000000000/\∀ x∈a,p x) (Di a P):=⟨λh=>cnq (Sp.sp h)⟩
instance (a:List eK) (c:eK->T Bool) (p:eK->Prop) (P:eK->Bool->Prop) [∀ x,Sp (c x) (p x) (P x)]:Sp (uU a c) (a.length<=1000000000000/\∀ x∈a,p x) (Ho a P (zb xp)):=⟨ixq⟩
instance (a:List eK) (c:eK->T Bool) (p:eK->Prop) (P:eK->Bool->Prop) [∀ x,Sp (c x) (p x) (P x)]:Sp (yc a c) (a.length<=1000000000000/\∀ x∈a,p x) (Di a P):=⟨λh=>cnq (Sp.sp h)⟩
instance (a:List dW) (c:dW->T Bool) (p:dW->Prop) (P:dW->Bool->Prop) [∀ x,Sp (c x) (p x) (P x)]:Sp (gU a c) (a.length<=1000000000000/\∀ x∈a,p x) (Ho a P (zb xl)):=⟨ixq⟩
instance (a:List dW) (c:dW->T Bool) (p:dW->Prop) (P:dW->Bool->Prop) [∀ x,Sp (c x) (p x) (P x)]:Sp (yd a c) (a.length<=1000000000000/\∀ x∈a,p x) (Di a P):=⟨λh=>cnq (Sp.sp h)⟩
instance (a:Int):Sp (cp a) True (λ_=>True):=⟨λ_=>by unfold cp; exact lg⟩
instance (a:Int):Sp (bQ a) True (λ_=>True):=⟨λ_=>by unfold bQ jZ; exact lg⟩
instance (a:zx) (s:Int):Sp (ZA a (a.length:Int) s) (s=0/\a.length<=1000000000) (λ_=>True):=⟨λh=>by
 unfold ZA ZB
 exact lps (λ(i:Int)=>0<=i/\i<=a.length) (λ(i:Int)=>(a.length-i).toNat)⟩
instance (a:zx):Sp (uP a) (a.length<=1000000000) (λr=>r=true->a.length<=24):=⟨λh=>by unfold uP; exact lg⟩
inductive EW(k:Nat):Expr->Prop
 | mk {kd:Int} {n:Lf.Rat} {s:zx} {l:List Expr}:rg n->rl n<=k->s.length<=k->l.length<=k->(∀ x∈l,EW k x)->EW k (.mk kd n s l)
inductive EO:Nat->Expr->Prop
 | num {n:Lf.Rat} {s:zx}:rg n->rl n<=16->EO 1 (.mk 1 n s [])
 | nam {n:Lf.Rat} {s:zx}:s.length<=24->EO 1 (.mk 2 n s [])
 | neg {n:Lf.Rat} {s:zx} {i:Nat} {a:Expr}:EO i a->EO (i+1) (.mk 7 n s [a])
 | bin {k:Int} {n:Lf.Rat} {s:zx} {i j:Nat} {a b:Expr}:3<=k->k<=6->EO i a->EO j b->EO (i+j+1) (.mk k n s [a,b])
instance (a:Lf.Rat):Sp (ZC a) (rg a/\rl a<=2000000) (λr=>r=true->rl a<=16):=⟨λh=>by have:nm a↔norm a=a:=Iff.rfl; unfold ZC; exact lg⟩
instance (a:Lf.Rat):Sp (mU a) (rg a/\rl a<=2000000) (λ_=>True):=⟨λh=>by unfold mU; exact lg⟩
def arity(k:Int):Nat:=if k=1\/k=2 then 0 else if k=7 then 1 else 2
instance (a:Int):Sp (XM a) True (λr=>0<=r->r=arity a/\1<=a/\a<=7):=⟨λ_=>by unfold XM arity; exact lg⟩
instance (e:Expr):Sp (mT e) (EW 2000000 e) (λr=>r=true->e.kids.length=arity e.kind/\1<=e.kind/\e.kind<=7/\(e.kind=1->rl e.num<=16)/\(e.kind=2->e.name.length<=24)):=⟨λh=>by
 cases h with
 | mk h1 M h3 h4 h5 =>
  unfold mT
  simp only[Expr.kids,Expr.kind,Expr.num,Expr.name]
  exact lg⟩
end Go.AM
namespace Go.AM
open T PL Lf
inductive Wr:Nat->List Expr->Prop
 | nil:Wr 0 []
 | snoc {m n:Nat} {l:List Expr} {a:Expr}:Wr m l->EO n a->Wr (m+n) (l++[a])
theorem mj{α:Type}(l:List α)(i:Int)(d:α)(h0:0<=i)(h:i<l.length):l.take (i+1).toNat=l.take i.toNat++[nth l i d]:=by
 have:(i+1).toNat=i.toNat+1:=Z
 rw[this,zY (Z)]
 unfold nth
 simp[zP,show i.toNat<l.length by omega]
theorem Wr.inv{n:Nat}{l:List Expr}(h:Wr n l):∀ (L:List Expr) (a:Expr),l=L++[a]->∃ i j,n=i+j/\Wr i L/\EO j a:=by
 cases h with
 | nil=>intro L a e; simp at e
 | @snoc m n l a h1 M =>
  intro L b e
  obtain⟨h3,h4⟩:=List.append_inj' e rfl
  subst h3
  cases h4
  exact⟨m,n,rfl,h1,M⟩
theorem Wr.n0{n:Nat}(h:Wr n []):n=0:=by
 generalize e:([]:List Expr)=l at h
 cases h with
 | nil=>rfl
 | snoc h1 M=>simp at e
theorem EO.of{k:Int}{n:Lf.Rat}{s:zx}{l:List Expr}{m:Nat}(h:Wr m l)(R:l.length=arity k)(h1:1<=k)(M:k<=7)(hn:rg n)(h3:k=1->rl n<=16)(h4:k=2->s.length<=24):EO (m+1) (.mk k n s l):=by
 unfold arity at R
 by_cases e1:k=1
 ·subst e1
  obtain rfl:l=[]:=by simpa using R
  rw[h.n0]; exact .num hn (h3 rfl)
 by_cases e2:k=2
 ·subst e2
  obtain rfl:l=[]:=by simpa using R
  rw[h.n0]; exact .nam (h4 rfl)
 by_cases e7:k=7
 ·subst e7
  obtain⟨a,rfl⟩:=List.length_eq_one_iff.1 (by simpa using R)
  obtain⟨i,j,rfl,g1,g2⟩:=h.inv [] a rfl
  rw[g1.n0]
  simpa using EO.neg g2
 ·rw[if_neg (Z),if_neg e7]at R
  match l,R with
  | [a,b],_ =>
  obtain⟨i,j,rfl,g1,g2⟩:=h.inv [a] b rfl
  obtain⟨i',j',rfl,g3,g4⟩:=g1.inv [] a rfl
  rw[g3.n0]
  simpa using EO.bin (Z) (Z) g4 g2
instance (l:List Expr) (g:Expr->Int->Int->T (Bool×Int)) (s:(Int×Unit)×Int×Int):Sp (wv g l (l.length:Int) s)
  (l.length<=2000000/\s.2.1=0/\0<=s.1.1/\s.1.1<32/\0<=s.2.2/\s.2.2<=256/\∀ e∈l,∀ d f:Int,0<=d/\d<=32/\0<=f/\f<=256->(g e d f).wp λr => -1<=r.2/\r.2<f/\(r.1=true->0<=r.2/\EO (f-r.2).toNat e))
  (λr=>match r with | .inl d=>0<=d/\d<=s.2.2/\Wr (s.2.2-d).toNat l | .inr z=>0<=z.1 /\ -1<=z.2/\z.2<=s.2.2):=⟨λh=>by
 unfold wv
 refine T.vX (λ(c,a,d)=>c.1=s.1.1/\0<=a/\a<=l.length/\0<=d/\d<=s.2.2/\Wr (s.2.2-d).toNat (l.take a.toNat)) (λ(_,a,_)=>(l.length-a).toNat) (by
  obtain⟨c,a,d⟩:=s
  dsimp only at *
  have:(d-d).toNat=0:=Z
  rw[h.2.1,this]
  exact⟨rfl,Z,Z,Z,Z,.nil⟩) λ⟨c,a,d⟩ ⟨h1,M,h3,h4,h5,h6⟩ => ?_
 unfold wT mE
 dsimp only at *
 refine T.zh (λe => ?_) λe => ?_
 ·have e:=uE e
  refine T.qw ⟨M,e⟩ (T.xn (T.xn (T.wm (h.2.2.2.2.2.2 _ (xw M e) _ _ (by rw[qv (Z) (Z)]; omega)) λr hr => ?_)))
  refine T.zi (T.zh (λe1=>T.zi ⟨M,hr.1,Z⟩) λe1=>T.zi ?_)
  obtain⟨g1,g2⟩:=hr.2.2 (by simpa using e1)
  rw[qv (Z) (Z)]
  dsimp only
  refine⟨⟨h1,Z,Z,g1,Z,?_⟩,Z⟩
  rw[mj l a _ M e,show(s.2.2-r.2).toNat=(s.2.2-d).toNat+(d-r.2).toNat by omega]
  exact .snoc h6 g2
 ·have e:=gZ e
  refine T.zi ⟨h4,h5,?_⟩
  rwa [zI (Z)]at h6⟩
instance (e:Expr) (d l:Int):Sp (ZE e d l) (EW 2000000 e/\0<=d/\d<=32/\0<=l/\l<=256) (λr => -1<=r.2/\r.2<l/\(r.1=true->0<=r.2/\EO (l-r.2).toNat e)):=⟨λh=>by
 unfold ZE
 refine T.se (x:=(e,d,l)) (σ:=Expr×Int×Int) (ρ:=Bool×Int) (λ(e,d,l)=>EW 2000000 e/\0<=d/\d<=32/\0<=l/\l<=256) (λ(e,_,_)=>zR e) (λ(e,_,l) r => -1<=r.2/\r.2<l/\(r.1=true->0<=r.2/\EO (l-r.2).toNat e)) ?_ ?_ h
 ·intro g g' hg x
  unfold ic wS vj wv wT mE
  exact mono
 ·intro⟨e,d,l⟩ ⟨he,h1,M,h3,h4⟩ g hg
  dsimp only at *
  have hn:=he
  cases he with
  | @mk kd n s L g1 g2 g3 g4 g5 =>
  have hk:∀ e∈L,∀ d f:Int,0<=d/\d<=32/\0<=f/\f<=256->(g (e,d,f)).wp λr => -1<=r.2/\r.2<f/\(r.1=true->0<=r.2/\EO (f-r.2).toNat e):=λe he d f h=>hg (e,d,f) ⟨g5 e he,h⟩ (by have:=xG he; simp; omega)
  have hs:∀ (f:Int),Sp (wv (λy0 y1 y2=>g (y0,y1,y2)) L (L.length:Int) ((d,()),0,f)) (d<32/\0<=f/\f<=256) (λr=>match r with | .inl z=>0<=z/\z<=f/\Wr (f-z).toNat L | .inr z=>0<=z.1 /\ -1<=z.2/\z.2<=f):=λf=>⟨λh=>Sp.sp ⟨g4,rfl,h1,h.1,h.2.1,h.2.2,hk⟩⟩
  have ho:∀ z:Int,Wr (l-1-z).toNat L->L.length=arity kd->1<=kd->kd<=7->(kd=1->rl n<=16)->(kd=2->s.length<=24)->0<=z->z<=l-1->EO (l-z).toNat (.mk kd n s L):=λz h a1 a2 a3 a4 a5 a6 a7=>by
   have:=EO.of h a1 a2 a3 g1 a4 a5
   rwa [show(l-1-z).toNat+1=(l-z).toNat by omega]at this
  unfold ic wS vj
  simp only[Expr.kids]
  rw[qv (Z) (Z)]
  have hi:Sp (mT (.mk kd n s L)) True (λr=>r=true->L.length=arity kd/\1<=kd/\kd<=7/\(kd=1->rl n<=16)/\(kd=2->s.length<=24)):=⟨λ_=>Sp.sp hn⟩
  clear hg hk g5 hn h g1 g2 g3 g4
  exact lg⟩
def EK(e:Expr):Prop:=∃ n,n<=256/\EO n e
instance (e:Expr):Sp (fZ e) (EW 2000000 e) (λr=>r=true->EK e):=⟨λh=>by unfold fZ EK; exact lg⟩
end Go.AM
namespace Go.AM
open T PL Lf
instance (e:Expr):Sp (lS e) True (λr=>1<=r/\r<=4):=⟨λ_=>by unfold lS; exact lg⟩
instance (e:Expr):Sp (ZF e) (EK e) (λr=>r.length<=665600):=⟨λh=>by
 unfold ZF
 refine T.wm (P:=λr=>∀ n,EO n e->r.length<=2600*n) ?_ λr hr=>by obtain⟨n,h1,M⟩:=h; have:=hr n M; omega
 refine T.se (x:=e) (σ:=Expr) (ρ:=zx) (λe=>∃ n,n<=256/\EO n e) (λe=>zR e) (λe r=>∀ n,EO n e->r.length<=2600*n) ?_ ?_ h
 ·intro g g' hg x
  unfold gF dm
  exact mono
 ·intro e ⟨n,hn,he⟩ g hg
  have hs:∀ y,Sp (g y) ((∃ n,n<=256/\EO n y)/\zR y<zR e) (λr=>∀ n,EO n y->r.length<=2600*n):=λy=>⟨λh=>hg y h.1 h.2⟩
  have hp:∀ y f,Sp (dm (λy0=>g y0) y f) ((∃ n,n<=256/\EO n y)/\zR y<zR e) (λr=>∀ n,EO n y->r.length<=2600*n+2):=λy f=>⟨λh=>by
   unfold dm
   clear hg
   exact lg⟩
  clear hg h hs
  cases he with
  | num h1 M =>
   unfold gF
   simp only[Expr.kids,Expr.kind,Expr.num,Expr.name]
   have:∀ {n m s},EO n (.mk 1 m s [])->1<=n:=λh=>by cases h<;>omega
   refine T.xn (T.uy rfl ?_)
   exact lg
  | nam h1 =>
   unfold gF
   simp only[Expr.kids,Expr.kind,Expr.num,Expr.name]
   have:∀ {n m s},EO n (.mk 2 m s [])->1<=n:=λh=>by cases h<;>omega
   refine T.xn (T.wM rfl (T.uy rfl ?_))
   exact lg
  | @neg m s i a h1 =>
   unfold gF
   simp only[Expr.kids,Expr.kind,Expr.num,Expr.name]
   have M:∀ {n},EO n (.mk 7 m s [a])->∃ j,n=j+1/\EO j a:=λh=>by cases h; exact⟨_,rfl,by assumption⟩
   refine T.xn (T.wM rfl (T.wM rfl (T.uy rfl (T.qw ⟨Z,qz⟩ (T.z8 ⟨⟨i,Z,h1⟩,by simp[nth]; omega⟩ λr hr => ?_)))))
   refine T.vk (by have:=hr i h1; simp; omega) (T.zi (T.zi λn hn => ?_))
   obtain⟨j,rfl,hj⟩:=M hn
   have:=hr j hj
   rw[X7]; simp<;>omega
  | @bin k m s i j a b h1 M h3 h4 =>
   unfold gF
   simp only[Expr.kids,Expr.kind,Expr.num,Expr.name]
   have h5:∀ {n},EO n (.mk k m s [a,b])->∃ i j,n=i+j+1/\EO i a/\EO j b:=λh=>by cases h; exact⟨_,_,rfl,by assumption,by assumption⟩
   refine T.xn (T.wM (xy) (T.wM (xy) (T.wM (xy) (T.wm (P:=λz=>∃ c:zx,z=.inl c/\c.length<=3) (by clear hp; exact lg) ?_))))
   rintro z ⟨c,rfl,hc⟩
   refine T.qw ⟨Z,by simp<;>omega⟩ (T.z8 trivial λy hy=>T.z8 ⟨⟨i,Z,h3⟩,by simp[nth]; omega⟩ λr hr=>T.vk (by have:=hr i h3; omega) (T.qw ⟨Z,qz⟩ (T.z8 trivial λy hy=>T.z8 ⟨⟨j,Z,h4⟩,by simp[nth]; omega⟩ λr' Ds=>T.vk (by have:=hr i h3; have:=Ds j h4; rw[X7]; omega) (T.zi λn hn => ?_))))
   obtain⟨i',j',rfl,hi,hj⟩:=h5 hn
   have:=hr i' hi
   have:=Ds j' hj
   rw[X7,X7]; omega⟩
instance (e:Expr):Sp (r8 e) (EW 2000000 e) (λr=>r.length<=665600):=⟨λh=>by unfold r8; exact lg⟩
end Go.AM
namespace Go.AM.Lf
open T PL
abbrev KK:Nat:=2000000
def FW(k:Nat)(f:Form):Prop :=
 (f.1.length<=k/\∀ x∈f.1,x.1.length<=KK)/\(f.2.1.length<=k/\∀ x∈f.2.1,x.1.length<=KK/\rg x.2.1/\rl x.2.1<=KK)/\(f.2.2.1.length<=k/\∀ x∈f.2.2.1,x.1.length<=KK/\x.2.1.length<=KK) /\
 (f.2.2.2.1.length<=k/\∀ x∈f.2.2.2.1,x.1.length<=KK)/\(f.2.2.2.2.1.length<=k/\∀ x∈f.2.2.2.2.1,x.1.length<=KK/\x.2.2.1.length<=KK/\EW KK x.2.2.2.1/\EW KK x.2.2.2.2.1) /\
 (f.2.2.2.2.2.1.length<=k/\∀ x∈f.2.2.2.2.2.1,x.1.length<=KK/\EW KK x.2.2.2.1/\EW KK x.2.2.2.2.1)
def FO(f:Form):Prop :=
 (∀ x∈f.1,x.1.length<=24)/\(∀ x∈f.2.1,x.1.length<=24/\rl x.2.1<=16)/\(∀ x∈f.2.2.1,x.1.length<=24/\x.2.1.length<=24) /\
 (∀ x∈f.2.2.2.1,x.1.length<=24/\0<=x.2.1/\x.2.1<f.2.2.1.length/\0<=x.2.2.2.1/\x.2.2.2.1<=9)/\(∀ x∈f.2.2.2.2.1,x.1.length<=24/\0<=x.2.1/\x.2.1<4/\x.2.2.1.length<=24/\EK x.2.2.2.1/\EK x.2.2.2.2.1) /\
 (∀ x∈f.2.2.2.2.2.1,x.1.length<=24/\0<=x.2.2.1/\x.2.2.1<3/\EK x.2.2.2.1/\EK x.2.2.2.2.1)
theorem eJ{σ ρ α:Type}(l:List α)(d:α)(ix:σ->Int)(A P:α->Prop)(hd:σ->Prop)(hA:∀ x∈l,A x){r:σ->T (σ⊕ρ)}{Q:ρ->Prop}{s:σ}(hs:ix s=0/\hd s)
  (step:∀ s x,hd s->A x->nth l (ix s) d=x->0<=ix s->ix s<l.length->(r s).wp λz=>match z with | .inl s'=>ix s'=ix s+1/\hd s'/\P x | .inr y=>Q y)
  (done:∀ s,hd s->ix s=l.length->(∀ x∈l,P x)->(r s).wp λz=>match z with | .inl _=>False | .inr y=>Q y):(T.loop r s).wp Q:=by
 refine T.vX (λs=>0<=ix s/\ix s<=l.length/\hd s/\∀ j:Int,0<=j->j<ix s->P (nth l j d)) (λs=>(l.length-ix s).toNat) ⟨Z,Z,hs.2,λj h0 h1=>Z⟩ λs ⟨h0,h1,M,h3⟩ => ?_
 by_cases h:ix s<l.length
 ·refine T.wm (step s _ M (hA _ (xw h0 h)) rfl h0 h) λz hz => ?_
  cases z with
  | inl s' =>
   obtain⟨e,hj,hp⟩:=hz
   refine⟨⟨Z,Z,hj,λj k0 k1 => ?_⟩,Z⟩
   by_cases e':j=ix s
   ·subst e'; exact hp
   ·exact h3 j k0 (Z)
  | inr y=>exact hz
 ·refine T.wm (done s M (Z) λx N => ?_) λz hz => ?_
  ·obtain⟨j,k0,k1,rfl⟩:=KA (d:=d) N
   exact h3 j k0 (Z)
  ·cases z with
   | inl s'=>exact hz.elim
   | inr y=>exact hz
theorem each{σ ρ α:Type}(l:List α)(d:α)(ix:σ->Int)(A P:α->Prop)(hd:σ->Prop)(hA:∀ x∈l,A x){r:σ->T (σ⊕ρ)}{Q:ρ->Prop}{s:σ}(hs:ix s=0/\hd s:=by grind)
  (step:∀ s x,hd s->A x->nth l (ix s) d=x->0<=ix s->ix s<l.length->(r s).wp λz=>match z with | .inl s'=>ix s'=ix s+1/\hd s'/\P x | .inr y=>Q y:=by
 intros
 repeat' (with_reducible first
  | refine T.zi ?_
  | refine T.zh (λ_ => ?_) (λ_ => ?_)
  | refine T.za ?_
  | refine T.ze ?_
  | refine T.uo ?_ ?_
  | refine T.qw ?_ ?_
  | refine T.vY ?_ ?_
  | refine T.vk ?_ ?_
  | refine T.zj ?_ ?_
  | refine T.vQ (λ_ _ => ?_) (λ_ _ => ?_)
  | refine T.z8 ?_ (λ_ _ => ?_)
  | refine T.vA ?_ (λ_ _ => ?_)
  | refine T.xn ?_
  | dsimp only)
 all_goals grind [xe,uN,ez,jy,vS,j3,Di,Ho,Yb,Wn,X7])
  (done:∀ s,hd s->ix s=l.length->(∀ x∈l,P x)->(r s).wp λz=>match z with | .inl _=>False | .inr y=>Q y:=by
 intros
 repeat' (with_reducible first
  | refine T.zi ?_
  | refine T.zh (λ_ => ?_) (λ_ => ?_)
  | refine T.za ?_
  | refine T.ze ?_
  | refine T.uo ?_ ?_
  | refine T.qw ?_ ?_
  | refine T.vY ?_ ?_
  | refine T.vk ?_ ?_
  | refine T.zj ?_ ?_
  | refine T.vQ (λ_ _ => ?_) (λ_ _ => ?_)
  | refine T.z8 ?_ (λ_ _ => ?_)
  | refine T.vA ?_ (λ_ _ => ?_)
  | refine T.xn ?_
  | dsimp only)
 all_goals grind):(T.loop r s).wp Q:=eJ l d ix A P hd hA hs step done
theorem goq{p:Prop} (h:p:=by
 intros
 repeat' (with_reducible first
  | refine T.zi ?_
  | refine T.zh (λ_ => ?_) (λ_ => ?_)
  | refine T.za ?_
  | refine T.ze ?_
  | refine T.uo ?_ ?_
  | refine T.qw ?_ ?_
  | refine T.vY ?_ ?_
  | refine T.vk ?_ ?_
  | refine T.zj ?_ ?_
  | refine T.vQ (λ_ _ => ?_) (λ_ _ => ?_)
  | refine T.z8 ?_ (λ_ _ => ?_)
  | refine T.vA ?_ (λ_ _ => ?_)
  | refine T.xn ?_
  | dsimp only)
 all_goals grind [xe,uN,ez,jy,j3,Di,Ho,Yb]):p:=h
instance (x:Switch):Sp (yL x) (x.1.length<=KK) (λr=>r=false->x.1.length<=24):=⟨λh=>by unfold yL; exact lg⟩
instance (x:Param):Sp (yM x) (x.1.length<=KK/\rg x.2.1/\rl x.2.1<=KK) (λr=>r=false->x.1.length<=24/\rl x.2.1<=16):=⟨λh=>by have:nm x.2.1↔norm x.2.1=x.2.1:=Iff.rfl; unfold yM; exact lg⟩
instance (x:zx):Sp (iU x) (x.length<=KK) (λr=>r=true->x.length<=24):=⟨λh=>by unfold iU; exact lg⟩
instance (x:eK):Sp (yN x) (x.1.length<=KK/\x.2.1.length<=KK) (λr=>r=false->x.1.length<=24/\x.2.1.length<=24):=⟨λh=>by unfold yN; exact lg⟩
instance:Sp kU True (λr=>r.length=4/\∀ s∈r,s.length<=8):=⟨λ_=>by unfold kU; exact T.zi ⟨rfl,xm⟩⟩
instance:Sp bz True (λr=>r.length=3/\∀ s∈r,s.length<=2):=⟨λ_=>by unfold bz; exact T.zi ⟨rfl,xm⟩⟩
instance (x:dW):Sp (kT x) (x.1.length<=KK/\x.2.2.1.length<=KK/\EW KK x.2.2.2.1/\EW KK x.2.2.2.2.1) (λr=>r=false->x.1.length<=24/\0<=x.2.1/\x.2.1<4/\x.2.2.1.length<=24/\EK x.2.2.2.1/\EK x.2.2.2.2.1):=⟨λh=>by unfold kT; exact goq⟩
instance (f:Form):Sp (sX f) (FW KK f) (λr=>r=true->(∀ x∈f.1,x.1.length<=24)/\(∀ x∈f.2.1,x.1.length<=24/\rl x.2.1<=16)/\(∀ x∈f.2.2.1,x.1.length<=24/\x.2.1.length<=24)):=⟨λh=>by unfold sX; unfold FW at h; exact goq⟩
instance (a b c:Int):Sp (iT a b c) True (λr=>r=true->0<=a/\a<c):=⟨λ_=>by unfold iT; exact lg⟩
instance (f:Form) (s:Int×Int):Sp (nV f f.2.2.2.1 (f.2.2.2.1.length:Int) s) (s.2=0/\f.2.2.2.1.length<=KK/\∀ x∈f.2.2.2.1,x.1.length<=KK)
  (λr=>match r with | .inl _=>∀ x∈f.2.2.2.1,x.1.length<=24/\0<=x.2.1/\x.2.1<f.2.2.1.length/\0<=x.2.2.2.1/\x.2.2.2.1<=9 | .inr b=>b=false):=⟨λh=>by
 unfold nV nW
 exact each f.2.2.2.1 (zb qu) (λ(_,i)=>i) (λx=>x.1.length<=KK) (λx=>x.1.length<=24/\0<=x.2.1/\x.2.1<f.2.2.1.length/\0<=x.2.2.2.1/\x.2.2.2.1<=9) (λ(_,i)=>i<=KK) h.2.2⟩
instance (f:Form) (s:Int×Int):Sp (nT f f.2.2.2.2.2.1 (f.2.2.2.2.2.1.length:Int) s) (s.2=0/\f.2.2.2.2.2.1.length<=KK/\∀ x∈f.2.2.2.2.2.1,x.1.length<=KK/\EW KK x.2.2.2.1/\EW KK x.2.2.2.2.1)
  (λr=>match r with | .inl _=>∀ x∈f.2.2.2.2.2.1,x.1.length<=24/\0<=x.2.2.1/\x.2.2.1<3/\EK x.2.2.2.1/\EK x.2.2.2.2.1 | .inr b=>b=false):=⟨λh=>by
 unfold nT nU
 exact each f.2.2.2.2.2.1 (zb xj) (λ(_,i)=>i) (λx=>x.1.length<=KK/\EW KK x.2.2.2.1/\EW KK x.2.2.2.2.1) (λx=>x.1.length<=24/\0<=x.2.2.1/\x.2.2.1<3/\EK x.2.2.2.1/\EK x.2.2.2.2.1) (λ(_,i)=>i<=KK) h.2.2⟩
open T PL
instance (f:Form):Sp (oP f) (FW 8200 f) (λr=>r=true->∀ x∈f.2.2.2.1,x.1.length<=24/\0<=x.2.1/\x.2.1<f.2.2.1.length/\0<=x.2.2.2.1/\x.2.2.2.1<=9):=⟨λh=>by unfold FW at h; unfold oP; exact goq⟩
instance (f:Form):Sp (oO f) (FW 8200 f) (λr=>r=true->(∀ x∈f.2.2.2.2.1,x.1.length<=24/\0<=x.2.1/\x.2.1<4/\x.2.2.1.length<=24/\EK x.2.2.2.1/\EK x.2.2.2.2.1) /\
 (∀ x∈f.2.2.2.2.2.1,x.1.length<=24/\0<=x.2.2.1/\x.2.2.1<3/\EK x.2.2.2.1/\EK x.2.2.2.2.1)):=⟨λh=>by unfold FW at h; unfold oO; exact goq⟩
def bt(l:List Int):Prop:=∀ n∈l,(0:Int)<=n/\n<256
theorem BY{l:List Int}(h:bt l)(s:zx):bt (l++bytesOf s):=λn hn=>by
 rcases List.mem_append.1 hn with k | k
 ·exact h n k
 ·unfold bytesOf at k
  obtain⟨b,_,rfl⟩:=List.mem_map.1 k
  have:=b.toNat_lt
  omega
theorem tX(s:zx):(bytesOf s).length=s.length:=by unfold bytesOf; simp
instance (b:zx) (c:List Int):Sp (xo b () c) (c.length+b.length<=140737488355328) (λr=>r.2.2=c++bytesOf b):=⟨λh=>by
 have:=tX b
 unfold xo tf vS
 exact goq⟩
def onS(b:Bool):zx:=bif b then[32,111,110,10]else[32,111,102,102,10]
theorem goa{p:Prop} (h:p:=by
 intros
 repeat' (with_reducible first
  | refine T.zi ?_
  | refine T.zh (λ_ => ?_) (λ_ => ?_)
  | refine T.za ?_
  | refine T.ze ?_
  | refine T.uo ?_ ?_
  | refine T.qw ?_ ?_
  | refine T.vY ?_ ?_
  | refine T.vk ?_ ?_
  | refine T.zj ?_ ?_
  | refine T.vQ (λ_ _ => ?_) (λ_ _ => ?_)
  | refine T.z8 ?_ (λ_ _ => ?_)
  | refine T.vA ?_ (λ_ _ => ?_)
  | refine T.xn ?_
  | dsimp only)
 all_goals try simp only[X7,List.length_cons,List.length_nil,Nat.reduceAdd,Nat.zero_add]
 all_goals grind [xe,uN,ez,jy,vS,j3,X7,BY,tX,Wn,Yb]):p:=h
theorem HD{σ ρ α:Type}(l:List α)(d:α)(ix:σ->Int)(A P:α->Prop)(hd:σ->Prop)(hA:∀ x∈l,A x){r:σ->T (σ⊕ρ)}{Q:ρ->Prop}{s:σ}(hs:ix s=0/\hd s:=by grind)
  (step:∀ s x,hd s->A x->nth l (ix s) d=x->0<=ix s->ix s<l.length->(r s).wp λz=>match z with | .inl s'=>ix s'=ix s+1/\hd s'/\P x | .inr y=>Q y:=by
 intros
 repeat' (with_reducible first
  | refine T.zi ?_
  | refine T.zh (λ_ => ?_) (λ_ => ?_)
  | refine T.za ?_
  | refine T.ze ?_
  | refine T.uo ?_ ?_
  | refine T.qw ?_ ?_
  | refine T.vY ?_ ?_
  | refine T.vk ?_ ?_
  | refine T.zj ?_ ?_
  | refine T.vQ (λ_ _ => ?_) (λ_ _ => ?_)
  | refine T.z8 ?_ (λ_ _ => ?_)
  | refine T.vA ?_ (λ_ _ => ?_)
  | refine T.xn ?_
  | dsimp only)
 all_goals try simp only[X7,List.length_cons,List.length_nil,Nat.reduceAdd,Nat.zero_add]
 all_goals grind [xe,uN,ez,jy,vS,j3,X7,BY,tX,Wn,Yb])
  (done:∀ s,hd s->ix s=l.length->(∀ x∈l,P x)->(r s).wp λz=>match z with | .inl _=>False | .inr y=>Q y:=by
 intros
 repeat' (with_reducible first
  | refine T.zi ?_
  | refine T.zh (λ_ => ?_) (λ_ => ?_)
  | refine T.za ?_
  | refine T.ze ?_
  | refine T.uo ?_ ?_
  | refine T.qw ?_ ?_
  | refine T.vY ?_ ?_
  | refine T.vk ?_ ?_
  | refine T.zj ?_ ?_
  | refine T.vQ (λ_ _ => ?_) (λ_ _ => ?_)
  | refine T.z8 ?_ (λ_ _ => ?_)
  | refine T.vA ?_ (λ_ _ => ?_)
  | refine T.xn ?_
  | dsimp only)
 all_goals try simp only[X7,List.length_cons,List.length_nil,Nat.reduceAdd,Nat.zero_add]
 all_goals grind [xe,uN,ez,jy,vS,j3,X7,BY,tX,Wn,Yb]):(T.loop r s).wp Q:=eJ l d ix A P hd hA hs step done
instance (a:zx):Sp (s6 a) (a.length<=1000000) (λr=>r.length<=a.length+6):=⟨λh=>by unfold s6; exact goa⟩
theorem z15(n:Int)(h0:0<=n)(h:n<1000000000000000000):(Yr n).length<=18:=by
 have key:∀ (k u:Nat),u<10 ^ (k+1)->(E0 u).length<=k+1:=by
  intro k
  induction k with
  | zero=>intro u hu; rw[E0,dif_pos (Z)]; simp
  | succ k ih =>
   intro u hu
   rw[E0]
   split
   ·simp
   ·have:=ih (u / 10) (by rw[zF]at hu; omega)
    simp; omega
 unfold Yr
 rw[if_neg (Z)]
 exact key 17 _ (Z)
instance (a:Int):Sp (strconv_Itoa a) (0<=a/\a<1000000000000000000) (λr=>r.length<=18):=⟨λh=>by unfold strconv_Itoa; exact T.zj (Z) (T.zi (z15 _ h.1 h.2))⟩
instance (x:Field):Sp (sW x) (x.1.length<=24/\0<=x.2.2.2.1/\x.2.2.2.1<=9) (λr=>r.length<=80):=⟨λh=>by
 obtain⟨n,p,m,s,u⟩:=x
 unfold sW
 cases m<;>dsimp only[cond_true,cond_false]<;>exact goa⟩
instance (a b:Expr) (s:zx):Sp (nt a s b) (EW KK a/\EW KK b/\s.length<=2) (λr=>r.length<=1331300):=⟨λh=>by unfold nt; exact goa⟩
instance (i:Int) (f:Form) (s:Int×Unit×List Int):Sp (nX i f f.2.2.2.1 (f.2.2.2.1.length:Int) s) (s.1=0/\f.2.2.2.1.length<=8200/\(∀ x∈f.2.2.2.1,x.1.length<=24/\0<=x.2.1/\x.2.1<f.2.2.1.length/\0<=x.2.2.2.1/\x.2.2.2.1<=9)/\bt s.2.2/\s.2.2.length<=100000000000000)
  (λr=>bt r.2/\r.2.length<=s.2.2.length+80*8200):=⟨λh=>by
 unfold nX nZ
 exact HD f.2.2.2.1 (zb qu) (λ(i,_,_)=>i) _ (λ_=>True) (λ(i,_,c)=>0<=i/\i<=8200/\bt c/\(c.length:Int)<=s.2.2.length+80*i) h.2.2.1⟩
instance (i:Int) (l:List Check) (s:Int×Unit×List Int):Sp (nY i l (l.length:Int) s) (s.1=0/\l.length<=8200/\(∀ x∈l,x.1.length<=24/\0<=x.2.2.1/\x.2.2.1<3/\EW KK x.2.2.2.1/\EW KK x.2.2.2.2.1)/\bt s.2.2/\s.2.2.length<=100000000000000)
  (λr=>bt r.2/\r.2.length<=s.2.2.length+1331400*8200):=⟨λh=>by
 have hn:∀ (l:List zx) (i:Int),(l.length=3/\∀ s∈l,s.length<=2)->0<=i->i<3->(nth l i (zb .str)).length<=2:=λl i h h0 h1=>h.2 _ (xw h0 (Z))
 unfold nY o0
 exact HD l (zb xj) (λ(i,_,_)=>i) _ (λ_=>True) (λ(i,_,c)=>0<=i/\i<=8200/\bt c/\(c.length:Int)<=s.2.2.length+1331400*i) h.2.2.1⟩
def FV(f:Form):Prop:=FW 8200 f/\FO f
instance (f:Form) (i:Int) (c:List Int):Sp (oQ f i () c) (FV f/\0<=i/\i<f.2.2.1.length/\bt c/\c.length<=91000000000000) (λr=>bt r.2/\r.2.length<=c.length+10920000000):=⟨λh=>by
 have h1:=h.1.2.2.2.1 _ (xw (d:=zb xp) h.2.1 h.2.2.1)
 obtain⟨⟨hw,ho⟩,M⟩:=h
 have h3:=hw.2.2.2.1.1
 have h4:=ho.2.2.2.1
 have h5:=hw.2.2.2.2.2.1
 have h6:=λ(x:Check) N=>(⟨(ho.2.2.2.2.2 x N).1,(ho.2.2.2.2.2 x N).2.1,(ho.2.2.2.2.2 x N).2.2.1,(hw.2.2.2.2.2.2 x N).2⟩:x.1.length<=24/\0<=x.2.2.1/\x.2.2.1<3/\EW KK x.2.2.2.1/\EW KK x.2.2.2.2.1)
 clear hw ho
 unfold oQ
 exact goa⟩
instance (f:Form) (s:Int×Unit×List Int):Sp (rS f f.1 (f.1.length:Int) s) (s.1=0/\f.1.length<=8200/\(∀ x∈f.1,x.1.length<=24)/\bt s.2.2/\s.2.2.length<=100) (λr=>bt r.2/\r.2.length<=1000000):=⟨λh=>by
 unfold rS rW
 simp only[show ∀ b:Bool,(bif b then([32,111,110,10]:zx)else[32,111,102,102,10])=onS b from λ_=>rfl]
 have:∀ b,(onS b).length<=5:=xm
 have:([115,119,105,116,99,104,32]:zx).length=7:=rfl
 exact HD f.1 (zb qq) (λ(i,_,_)=>i) _ (λ_=>True) (λ(i,_,c)=>0<=i/\i<=8200/\bt c/\(c.length:Int)<=s.2.2.length+40*i) h.2.2.1⟩
instance (f:Form) (s:Int×Unit×List Int):Sp (rT f f.2.1 (f.2.1.length:Int) s) (s.1=0/\f.2.1.length<=8200/\(∀ x∈f.2.1,x.1.length<=24/\rg x.2.1/\rl x.2.1<=16)/\bt s.2.2/\s.2.2.length<=1000000) (λr=>bt r.2/\r.2.length<=10000000):=⟨λh=>by
 unfold rT rX
 exact HD f.2.1 (zb qf) (λ(i,_,_)=>i) _ (λ_=>True) (λ(i,_,c)=>0<=i/\i<=8200/\bt c/\(c.length:Int)<=s.2.2.length+800*i) h.2.2.1⟩
instance (f:Form) (s:Int×Unit×List Int):Sp (rU f (f.2.2.1.length:Int) s) (s.1=0/\FV f/\bt s.2.2/\s.2.2.length<=10000000) (λr=>bt r.2/\r.2.length<=90000000000000):=⟨λh=>by
 have hw:=h.2.1.1.2.2.1.1
 unfold rU rY
 exact HD f.2.2.1 (zb xp) (λ(i,_,_)=>i) (λ_=>True) (λ_=>True) (λ(i,_,c)=>0<=i/\i<=8200/\bt c/\(c.length:Int)<=s.2.2.length+10920000000*i) (λ_ _=>trivial)⟩
instance (l:List dW) (s:Int×Unit×List Int):Sp (rV l (l.length:Int) s) (s.1=0/\l.length<=8200/\(∀ x∈l,x.1.length<=24/\0<=x.2.1/\x.2.1<4/\x.2.2.1.length<=24/\EW KK x.2.2.2.1/\EW KK x.2.2.2.2.1)/\bt s.2.2/\s.2.2.length<=90000000000000) (λr=>bt r.2/\r.2.length<=100000000000000):=⟨λh=>by
 have hn:∀ (l:List zx) (i:Int),(l.length=4/\∀ s∈l,s.length<=8)->0<=i->i<4->(nth l i (zb .str)).length<=8:=λl i h h0 h1=>h.2 _ (xw h0 (Z))
 unfold rV rZ
 exact HD l (zb xl) (λ(i,_,_)=>i) _ (λ_=>True) (λ(i,_,c)=>0<=i/\i<=8200/\bt c/\(c.length:Int)<=s.2.2.length+1400000*i) h.2.2.1⟩
instance (f:Form):Sp (nq f) (FV f) (λ_=>True):=⟨λh=>by
 have hv:=h
 have e:bt []:=λ_ h=>nomatch h
 obtain⟨⟨⟨a1,_⟩,⟨a2,b2⟩,_,_,⟨a5,b5⟩,_⟩,c1,c2,_,_,c5,_⟩:=h
 have h1:=λ(x:Param) N=>(⟨(c2 x N).1,(b2 x N).2.1,(c2 x N).2⟩:x.1.length<=24/\rg x.2.1/\rl x.2.1<=16)
 have M:=λ(x:dW) N=>(⟨(c5 x N).1,(c5 x N).2.1,(c5 x N).2.2.1,(c5 x N).2.2.2.1,(b5 x N).2.2⟩:x.1.length<=24/\0<=x.2.1/\x.2.1<4/\x.2.2.1.length<=24/\EW KK x.2.2.2.1/\EW KK x.2.2.2.2.1)
 have h3:∀ l,bt l->∀ n∈l,(0:Int)<=n/\n<256:=λ_ h=>h
 clear b2 b5 c2 c5
 unfold nq pA z3a oZ
 exact goa⟩
instance (f:Form):Sp (Z6 f) (FW 8200 f) (λr=>r=true->FV f):=⟨λh=>by
 have hk:FW KK f:=by obtain⟨⟨a1,b1⟩,⟨a2,b2⟩,⟨a3,b3⟩,⟨a4,b4⟩,⟨a5,b5⟩,a6,b6⟩:=h; unfold FW KK; exact⟨⟨Z,b1⟩,⟨Z,b2⟩,⟨Z,b3⟩,⟨Z,b4⟩,⟨Z,b5⟩,Z,b6⟩
 unfold Z6
 refine T.z8 hk λb I=>T.zh (λe=>T.z8 h λc hc=>T.zh (λe1=>T.z8 h λd J=>T.zh (λe2 => ?_) λ_=>T.zi nofun) λ_=>T.zi nofun) λ_=>T.zi nofun
 have hv:FV f:=⟨h,(I e).1,(I e).2.1,(I e).2.2,hc e1,J e2⟩
 exact T.z8 hv λ_ _=>T.zi λ_=>hv⟩
open T PL
def ss(l:List zx):Prop:=∀ s∈l,s.length<=KK
theorem z36{a:List zx}(h:ss a){s:zx}(hs:s.length<=KK):ss (a++[s]):=λx N=>by
 rcases List.mem_append.1 N with k | k
 ·exact h x k
 ·rw[qL.1 k]; exact hs
theorem LJ:ss []:=λ_ h=>nomatch h
theorem El{p:Prop} (h:p:=by
 intros
 repeat' (with_reducible first
  | refine T.zi ?_
  | refine T.zh (λ_ => ?_) (λ_ => ?_)
  | refine T.za ?_
  | refine T.ze ?_
  | refine T.uo ?_ ?_
  | refine T.qw ?_ ?_
  | refine T.vY ?_ ?_
  | refine T.vk ?_ ?_
  | refine T.zj ?_ ?_
  | refine T.vQ (λ_ _ => ?_) (λ_ _ => ?_)
  | refine T.z8 ?_ (λ_ _ => ?_)
  | refine T.vA ?_ (λ_ _ => ?_)
  | refine T.xn ?_
  | dsimp only)
 all_goals grind [xe,uN,ez,jy,vS,j3,Wn,Yb,z36,LJ,List.length_append,yE,Di,Ho]):p:=h
theorem pU{σ ρ α:Type}(l:List α)(d:α)(ix:σ->Int)(A P:α->Prop)(hd:σ->Prop)(hA:∀ x∈l,A x){r:σ->T (σ⊕ρ)}{Q:ρ->Prop}{s:σ}(hs:ix s=0/\hd s:=by grind [LJ])
  (step:∀ s x,hd s->A x->nth l (ix s) d=x->0<=ix s->ix s<l.length->(r s).wp λz=>match z with | .inl s'=>ix s'=ix s+1/\hd s'/\P x | .inr y=>Q y:=by
 intros
 repeat' (with_reducible first
  | refine T.zi ?_
  | refine T.zh (λ_ => ?_) (λ_ => ?_)
  | refine T.za ?_
  | refine T.ze ?_
  | refine T.uo ?_ ?_
  | refine T.qw ?_ ?_
  | refine T.vY ?_ ?_
  | refine T.vk ?_ ?_
  | refine T.zj ?_ ?_
  | refine T.vQ (λ_ _ => ?_) (λ_ _ => ?_)
  | refine T.z8 ?_ (λ_ _ => ?_)
  | refine T.vA ?_ (λ_ _ => ?_)
  | refine T.xn ?_
  | dsimp only)
 all_goals grind [xe,uN,ez,jy,vS,j3,Wn,Yb,z36,LJ,List.length_append,yE,Di,Ho])
  (done:∀ s,hd s->ix s=l.length->(∀ x∈l,P x)->(r s).wp λz=>match z with | .inl _=>False | .inr y=>Q y:=by
 intros
 repeat' (with_reducible first
  | refine T.zi ?_
  | refine T.zh (λ_ => ?_) (λ_ => ?_)
  | refine T.za ?_
  | refine T.ze ?_
  | refine T.uo ?_ ?_
  | refine T.qw ?_ ?_
  | refine T.vY ?_ ?_
  | refine T.vk ?_ ?_
  | refine T.zj ?_ ?_
  | refine T.vQ (λ_ _ => ?_) (λ_ _ => ?_)
  | refine T.z8 ?_ (λ_ _ => ?_)
  | refine T.vA ?_ (λ_ _ => ?_)
  | refine T.xn ?_
  | dsimp only)
 all_goals grind):(T.loop r s).wp Q:=eJ l d ix A P hd hA hs step done
instance (f:Form) (s:Int×List zx):Sp (pF f f.1 (f.1.length:Int) s) (s.1=0/\f.1.length<=8200/\(∀ x∈f.1,x.1.length<=KK)/\ss s.2/\s.2.length<=100000) (λr=>ss r/\r.length<=s.2.length+f.1.length):=⟨λh=>by
 unfold pF pL
 exact pU f.1 (zb qq) (λ(i,_)=>i) _ (λ_=>True) (λ(i,c)=>0<=i/\i<=f.1.length/\ss c/\(c.length:Int)<=s.2.length+i) h.2.2.1⟩
instance (f:Form) (s:Int×List zx):Sp (pG f f.2.1 (f.2.1.length:Int) s) (s.1=0/\f.2.1.length<=8200/\(∀ x∈f.2.1,x.1.length<=KK)/\ss s.2/\s.2.length<=100000) (λr=>ss r/\r.length<=s.2.length+f.2.1.length):=⟨λh=>by
 unfold pG pM
 exact pU f.2.1 (zb qf) (λ(i,_)=>i) _ (λ_=>True) (λ(i,c)=>0<=i/\i<=f.2.1.length/\ss c/\(c.length:Int)<=s.2.length+i) h.2.2.1⟩
instance (f:Form) (s:Int×List zx):Sp (pH f f.2.2.1 (f.2.2.1.length:Int) s) (s.1=0/\f.2.2.1.length<=8200/\(∀ x∈f.2.2.1,x.1.length<=KK)/\ss s.2/\s.2.length<=100000) (λr=>ss r/\r.length<=s.2.length+f.2.2.1.length):=⟨λh=>by
 unfold pH pN
 exact pU f.2.2.1 (zb xp) (λ(i,_)=>i) _ (λ_=>True) (λ(i,c)=>0<=i/\i<=f.2.2.1.length/\ss c/\(c.length:Int)<=s.2.length+i) h.2.2.1⟩
instance (f:Form) (s:Int×List zx):Sp (pI f f.2.2.2.1 (f.2.2.2.1.length:Int) s) (s.1=0/\f.2.2.2.1.length<=8200/\(∀ x∈f.2.2.2.1,x.1.length<=KK)/\ss s.2/\s.2.length<=100000) (λr=>ss r/\r.length<=s.2.length+f.2.2.2.1.length):=⟨λh=>by
 unfold pI pO
 exact pU f.2.2.2.1 (zb qu) (λ(i,_)=>i) _ (λ_=>True) (λ(i,c)=>0<=i/\i<=f.2.2.2.1.length/\ss c/\(c.length:Int)<=s.2.length+i) h.2.2.1⟩
instance (f:Form) (s:Int×List zx):Sp (pJ f f.2.2.2.2.1 (f.2.2.2.2.1.length:Int) s) (s.1=0/\f.2.2.2.2.1.length<=8200/\(∀ x∈f.2.2.2.2.1,x.1.length<=KK)/\ss s.2/\s.2.length<=100000) (λr=>ss r/\r.length<=s.2.length+f.2.2.2.2.1.length):=⟨λh=>by
 unfold pJ pP
 exact pU f.2.2.2.2.1 (zb xl) (λ(i,_)=>i) _ (λ_=>True) (λ(i,c)=>0<=i/\i<=f.2.2.2.2.1.length/\ss c/\(c.length:Int)<=s.2.length+i) h.2.2.1⟩
instance (l:List Check) (s:Int×List zx):Sp (pK l (l.length:Int) s) (s.1=0/\l.length<=8200/\(∀ x∈l,x.1.length<=KK)/\ss s.2/\s.2.length<=100000) (λr=>ss r/\r.length<=s.2.length+l.length):=⟨λh=>by
 unfold pK pQ
 exact pU l (zb xj) (λ(i,_)=>i) _ (λ_=>True) (λ(i,c)=>0<=i/\i<=l.length/\ss c/\(c.length:Int)<=s.2.length+i) h.2.2.1⟩
instance (f:Form) (s:Int×List zx):Sp (eM f f.2.2.1 (f.2.2.1.length:Int) s) (s.1=0/\f.2.2.1.length<=8200/\(∀ x∈f.2.2.1,x.2.1.length<=KK)/\ss s.2/\s.2.length<=100000) (λr=>ss r/\r.length<=s.2.length+f.2.2.1.length):=⟨λh=>by
 unfold eM eO
 exact pU f.2.2.1 (zb xp) (λ(i,_)=>i) _ (λ_=>True) (λ(i,c)=>0<=i/\i<=f.2.2.1.length/\ss c/\(c.length:Int)<=s.2.length+i) h.2.2.1⟩
instance (f:Form) (s:Int×List zx):Sp (eN f f.2.2.2.2.1 (f.2.2.2.2.1.length:Int) s) (s.1=0/\f.2.2.2.2.1.length<=8200/\(∀ x∈f.2.2.2.2.1,x.2.2.1.length<=KK)/\ss s.2/\s.2.length<=100000) (λr=>ss r/\r.length<=s.2.length+f.2.2.2.2.1.length):=⟨λh=>by
 unfold eN eP
 exact pU f.2.2.2.2.1 (zb xl) (λ(i,_)=>i) _ (λ_=>True) (λ(i,c)=>0<=i/\i<=f.2.2.2.2.1.length/\ss c/\(c.length:Int)<=s.2.length+i) h.2.2.1⟩
instance (f:Form) (s:Int×List zx):Sp (nE f f.2.2.2.1 (f.2.2.2.1.length:Int) s) (s.1=0/\f.2.2.2.1.length<=8200/\(∀ x∈f.2.2.2.1,x.1.length<=KK)/\ss s.2/\s.2.length<=100000) (λr=>ss r/\r.length<=s.2.length+f.2.2.2.1.length):=⟨λh=>by
 unfold nE nG
 exact pU f.2.2.2.1 (zb qu) (λ(i,_)=>i) _ (λ_=>True) (λ(i,c)=>0<=i/\i<=f.2.2.2.1.length/\ss c/\(c.length:Int)<=s.2.length+i) h.2.2.1⟩
instance (f:Form):Sp (su f) (FV f) (λr=>ss r/\r.length<=50000):=⟨λh=>by
 obtain⟨⟨⟨a1,b1⟩,⟨a2,b2⟩,⟨a3,b3⟩,⟨a4,b4⟩,⟨a5,b5⟩,a6,b6⟩,_⟩:=h
 have b2:=λx N=>(b2 x N).1
 have b3:=λx N=>(b3 x N).1
 have b5:=λx N=>(b5 x N).1
 have b6:=λx N=>(b6 x N).1
 unfold su oZ
 exact El⟩
instance (l:List zx):Sp (sw l) (ss l/\l.length<=50000) (λ_=>True):=⟨λh=>by
 unfold sw
 exact T.zj ⟨Z,λs hs=>zQ (h.1 s hs) (by unfold KK; omega)⟩ (T.zi trivial)⟩
instance (a:Switch) (s:zx):Sp (vR a s) True (λ_=>True):=⟨λ_=>by unfold vR; exact El⟩
instance (s:zx) (f:Form):Sp (jO s f) (f.1.length<=8200) (λ_=>True):=⟨λh=>by unfold jO; exact El⟩
instance (a:List zx) (c:zx->T Bool) (p:zx->Prop) (P:zx->Bool->Prop) [∀ x,Sp (c x) (p x) (P x)]:Sp (wU a c) (a.length<=1000000000000/\∀ x∈a,p x) (Ho a P (zb .str)):=⟨ixq⟩
instance (a:List zx) (c:zx->T Bool) (p:zx->Prop) (P:zx->Bool->Prop) [∀ x,Sp (c x) (p x) (P x)]:Sp (kz a c) (a.length<=1000000000000/\∀ x∈a,p x) (Di a P):=⟨λh=>cnq (Sp.sp h)⟩
instance (f:Form):Sp (eB f) (FV f) (λ_=>True):=⟨λh=>by
 obtain⟨⟨⟨a1,b1⟩,⟨a2,b2⟩,⟨a3,b3⟩,⟨a4,b4⟩,⟨a5,b5⟩,a6,b6⟩,_⟩:=h
 have b3:=λx N=>(b3 x N).2
 have b5:=λx N=>(b5 x N).2.1
 unfold eB oZ
 exact El⟩
instance (a:List zx) (c:zx) (s:Int):Sp (gj a c (a.length:Int) s) (s=0/\a.length<=1000000) (λr=>match r with | .inl _=>True | .inr i=>0<=i/\i<a.length):=⟨λh=>by
 unfold gj gm
 exact pU a (zb .str) (λ(i:Int)=>i) (λ_=>True) (λ_=>True) (λ(i:Int)=>i<=1000000) (λ_ _=>trivial)⟩
instance (a:List zx) (c:zx):Sp (wD a c) (a.length<=1000000) (λr => -1<=r/\r<a.length):=⟨λh=>by unfold wD; exact El⟩
instance (a:List zx) (c:zx):Sp (wJ a c) (a.length<=1000000) (λ_=>True):=⟨λh=>by unfold wJ; exact El⟩
open T PL
theorem _root_.Go.AM.EO.uniq{m:Nat}{e:Expr}(h:EO m e):∀ {n:Nat},EO n e->m=n:=by
 induction h with
 | num=>intro n h; cases h; rfl
 | nam=>intro n h; cases h; rfl
 | neg _ ih =>
  intro n h
  cases h with
  | neg h=>rw[ih h]
 | bin a b _ _ ih jh =>
  intro n h
  cases h with
  | bin _ _ h k=>rw[ih h,jh k]
theorem _root_.Go.AM.EO.ks{n:Nat}{e:Expr}(h:EO n e):(∀ x∈e.kids,∃ k,EO k x)/\(∀ m,Wr m e.kids->m+1=n)/\e.kids.length<=2/\(e.kind=2->e.name.length<=24):=by
 cases h with
 | num=>exact⟨nofun,λm h=>by rw[Wr.n0 h],by simp[Expr.kids],λh=>by simp[Expr.kind]at h⟩
 | nam h=>exact⟨nofun,λm h=>by rw[Wr.n0 h],by simp[Expr.kids],λ_=>h⟩
 | neg h =>
  refine⟨λx N=>⟨_,qL.1 N▸h⟩,λm hm => ?_,by simp[Expr.kids],λh=>by simp[Expr.kind]at h⟩
  obtain⟨i,j,rfl,h1,M⟩:=hm.inv [] _ rfl
  rw[h1.n0,M.uniq h]; omega
 | bin h1 M h3 h4 =>
  refine⟨λx N => ?_,λm hm => ?_,by simp[Expr.kids],λh=>by simp[Expr.kind]at h; omega⟩
  ·rcases xL.1 N with rfl | N
   ·exact⟨_,h3⟩
   ·exact⟨_,qL.1 N▸h4⟩
  ·obtain⟨i,j,rfl,g1,g2⟩:=hm.inv [_] _ rfl
   obtain⟨i',j',rfl,g3,g4⟩:=g1.inv [] _ rfl
   rw[g3.n0,g2.uniq h4,g4.uniq h3]; omega
theorem _root_.Go.AM.Wr.ex{l:List Expr}(h:∀ x∈l,∃ k,EO k x):∃ m,Wr m l:=by
 have:∀ n,n<=l.length->∃ m,Wr m (l.take n):=by
  intro n
  induction n with
  | zero=>exact λ_=>⟨0,by simpa using Wr.nil⟩
  | succ n ih =>
   intro hn
   obtain⟨m,hm⟩:=ih (Z)
   obtain⟨k,hk⟩:=h l[n] (List.getElem_mem (Z))
   rw[zY (Z)]
   exact⟨_,.snoc hm hk⟩
 simpa using this l.length (zJ _)
theorem _root_.Go.AM.Wr.uniq{m:Nat}{l:List Expr}(h:Wr m l):∀ {n:Nat},Wr n l->m=n:=by
 induction h with
 | nil=>intro n h; exact h.n0.symm
 | snoc _ h1 ih =>
  intro n h
  obtain⟨i,j,rfl,g1,g2⟩:=h.inv _ _ rfl
  rw[ih g1,h1.uniq g2]
theorem _root_.Go.AM.Wr.le{m:Nat}{l:List Expr}(h:Wr m l):∀ i,∃ k,Wr k (l.take i)/\k<=m:=by
 induction h with
 | nil=>intro i; exact⟨0,by simpa using Wr.nil,zJ _⟩
 | @snoc m n l a h h1 ih =>
  intro i
  by_cases e:i<=l.length
  ·obtain⟨k,hk,hle⟩:=ih i
   rw[List.take_append_of_le_length e]
   exact⟨k,hk,Z⟩
  ·rw[zI (by simp; omega)]
   exact⟨_,.snoc h h1,zJ _⟩
theorem z8Y{σ ρ:Type}(l:List Expr)(ix:σ->Int)(hd:Nat->σ->Prop){h2:Nat}(hM:Wr h2 l)(hA:∀ x∈l,∃ k,EO k x){r:σ->T (σ⊕ρ)}{Q:ρ->Prop}{s:σ}(hs:ix s=0/\hd 0 s)
  (step:∀ m k s x,hd m s->EO k x->x∈l->m+k<=h2->nth l (ix s) (zb .expr)=x->0<=ix s->ix s<l.length->(r s).wp λz=>match z with | .inl s'=>ix s'=ix s+1/\hd (m+k) s' | .inr y=>Q y)
  (done:∀ s,hd h2 s->ix s=l.length->(r s).wp λz=>match z with | .inl _=>False | .inr y=>Q y):(T.loop r s).wp Q:=by
 refine eJ l (zb .expr) ix (λx=>x∈l) (λ_=>True) (λs=>0<=ix s/\∃ m,hd m s/\Wr m (l.take (ix s).toNat)) (λ_ h=>h) ⟨hs.1,Z,0,hs.2,by rw[hs.1]; exact .nil⟩ (λs x ⟨h0,m,h1,M⟩ N he _ R => ?_) λs ⟨h0,m,h1,M⟩ he _ => ?_
 ·obtain⟨k,hk⟩:=hA x N
  have h3:=Wr.snoc M hk
  rw[<- he,<- mj l _ (zb .expr) h0 R]at h3
  obtain⟨k',Kw,hle⟩:=hM.le (ix s+1).toNat
  have:=h3.uniq Kw
  refine T.wm (step m k s x h1 hk N (Z) he h0 R) λz hz => ?_
  cases z with
  | inl s'=>exact⟨hz.1,⟨Z,_,hz.2,by rw[hz.1]; exact h3⟩,trivial⟩
  | inr y=>exact hz
 ·rw[he,zA,List.take_length]at M
  exact done s (M.uniq hM▸h1) he
theorem MV{e x:Expr}(h:x∈e.kids):zR x<zR e:=by
 cases e
 have:=xG h
 simp only[Expr.kids]at this
 simp; omega
instance (e:Expr) (a:List zx):Sp (ow e a) (EK e/\ss a/\a.length<=100000) (λr=>ss r/\r.length<=a.length+256):=⟨λh=>by
 obtain⟨⟨n,hn,he⟩,h⟩:=h
 unfold ow
 refine T.wm (P:=λr=>∀ n,EO n e->ss r/\r.length<=a.length+n) ?_ λr hr=>⟨(hr n he).1,by have:=(hr n he).2; omega⟩
 refine T.se (x:=(e,a)) (λ(e,a)=>(∃ n,EO n e/\a.length+n<=200000)/\ss a) (λ(e,_)=>zR e) (λ(e,a) r=>∀ n,EO n e->ss r/\r.length<=a.length+n) ?_ ?_ ⟨⟨n,he,Z⟩,h.1⟩
 ·intro g g' hg x
  unfold de cf eC
  exact mono
 ·intro⟨e,a⟩ ⟨⟨n,he,hn⟩,h1⟩ g hg
  obtain⟨k1,k2,k3,k4⟩:=he.ks
  obtain⟨h2,hM⟩:=Wr.ex k1
  have k2:=k2 h2 hM
  have R:∀ d:List zx,ss d/\d.length<=a.length+1->(cf (λy0 y1=>g (y0,y1)) e.kids (Nat.cast e.kids.length:Int) (0,d)).wp λr=>ss r/\r.length<=a.length+n:=λd J=>by
   unfold cf eC
   refine z8Y e.kids (λ(i,_)=>i) (λm (_,c)=>ss c/\c.length<=a.length+1+m) hM k1 ⟨rfl,J⟩ (λm k ⟨i,c⟩ x hj hk N hle hxe h0 wL => ?_) λ⟨i,c⟩ hj hi => ?_
   ·dsimp only at h0 wL hxe
    refine T.zh (λ_=>T.qw ⟨h0,wL⟩ (T.ze (T.za (T.xn (T.wm (hg (nth e.kids i (zb .expr),c) ⟨⟨k,hxe▸hk,by have:=hj.2; omega⟩,hj.1⟩ (MV (hxe▸N))) λr hr=>T.ze (T.za (T.zi ?_))))))) λhf=>absurd wL (gZ hf)
    have:=hr k (hxe▸hk)
    exact⟨qv (Z) (Z),this.1,by have:=hj.2; omega⟩
   ·dsimp only at hi
    refine T.zh (λht=>absurd (uE ht) (Z)) λ_=>T.ze (T.za (T.zi ⟨hj.1,by have:=hj.2; omega⟩))
  have hs:∀ d:List zx,Sp (cf (λy0 y1=>g (y0,y1)) e.kids (Nat.cast e.kids.length:Int) (0,d)) (ss d/\d.length<=a.length+1) (λr=>ss r/\r.length<=a.length+n):=λd=>⟨R d⟩
  have hq:∀ n',EO n' e->n'=n:=λn' h=>h.uniq he
  have k5:e.kind=2->e.name.length<=KK:=λh=>by have:=k4 h; unfold KK; omega
  clear hg R hM k1 k4
  unfold de
  exact El⟩
instance (l:List Expr) (s:Int×List zx):Sp (lT l (l.length:Int) s) (s.1=0/\l.length<=2/\(∀ x∈l,EK x)/\ss s.2/\s.2.length<=50000) (λr=>ss r/\r.length<=s.2.length+512):=⟨λh=>by
 unfold lT lU
 exact pU l (zb .expr) (λ(i,_)=>i) _ (λ_=>True) (λ(i,c)=>0<=i/\i<=2/\ss c/\(c.length:Int)<=s.2.length+256*i) h.2.2.1⟩
theorem EK.ks{e:Expr}(h:EK e):(∀ x∈e.kids,EK x)/\e.kids.length<=2/\(e.kind=2->e.name.length<=KK):=by
 obtain⟨n,hn,he⟩:=h
 obtain⟨k1,k2,k3,k4⟩:=he.ks
 obtain⟨h2,hM⟩:=Wr.ex k1
 refine⟨λx N => ?_,k3,λh=>by have:=k4 h; unfold KK; omega⟩
 obtain⟨k,hk⟩:=k1 x N
 have:=k2 h2 hM
 obtain⟨i,h0,h1,rfl⟩:=KA (d:=zb .expr) N
 obtain⟨a,ha,ha'⟩:=hM.le i.toNat
 obtain⟨b,I,Kb⟩:=hM.le (i+1).toNat
 rw[mj _ _ (zb .expr) h0 h1]at I
 have:=I.uniq (.snoc ha hk)
 exact⟨k,Z,hk⟩
instance (e:Expr) (a:List zx):Sp (mF e a) (EK e/\ss a/\a.length<=10000) (λr=>ss r/\r.length<=a.length+600):=⟨λh=>by
 obtain⟨k1,k2,k3⟩:=EK.ks h.1
 unfold mF
 exact El⟩
instance (e:Expr):Sp (dc e) (EK e) (λr=>ss r/\r.length<=600):=⟨λh=>by unfold dc oZ; exact El⟩
instance (s:zx) (l:List zx):Sp (bM s l) (l.length<=1000000) (λ_=>True):=⟨λh=>by unfold bM; exact El⟩
instance (e:Expr) (l:List zx):Sp (tH e l) (EK e/\l.length<=1000000) (λ_=>True):=⟨λh=>by unfold tH; exact El⟩
instance (e:Expr) (l:List zx):Sp (fB e l) (EK e/\l.length<=1000000) (λ_=>True):=⟨λh=>by
 unfold fB
 refine T.se (x:=(e,l)) (λ(e,l)=>EK e/\l.length<=1000000) (λ(e,_)=>zR e) (λ_ _=>True) ?_ ?_ h
 ·intro g g' hg x
  unfold cU j9 gT cO ye uX
  exact mono
 ·intro⟨e,l⟩ ⟨he,R⟩ g hg
  obtain⟨k1,k2,k3⟩:=EK.ks he
  have hn:e.kids.length=2->EK (nth e.kids 0 (zb .expr))/\EK (nth e.kids 1 (zb .expr)):=λh=>⟨k1 _ (xw (Z) (Z)),k1 _ (xw (Z) (Z))⟩
  have hc:∀ x,Sp (uX (λy0 y1=>g (y0,y1)) x l) (x∈e.kids) (λ_=>True):=λx=>⟨λN=>T.xn (T.wm (hg (x,l) ⟨k1 x N,R⟩ (MV N)) λ_ _=>T.zi trivial)⟩
  have hs:Sp (j9 (λy0 y1=>g (y0,y1)) e.kids λx=>uX (λy0 y1=>g (y0,y1)) x l) True (λ_=>True):=⟨λ_=>T.wm (cnq (ixq (d0:=zb .expr) (l:=e.kids) (c:=λx=>uX (λy0 y1=>g (y0,y1)) x l) ⟨Z,λ_ h=>h⟩)) λ_ _=>trivial⟩
  clear hg k1 hc
  unfold cU
  exact El⟩
instance (a:Param) (s:zx):Sp (uA a s) True (λ_=>True):=⟨λ_=>by unfold uA; exact El⟩
instance (s:zx) (l:List zx) (f:Form):Sp (yr s l f) (f.2.1.length<=8200/\l.length<=1000000) (λ_=>True):=⟨λh=>by unfold yr; exact El⟩
instance (a b c:List zx):Sp (j7 [a,b,c]) (a.length+b.length+c.length<=1000000000/\ss a/\ss b/\ss c) (λr=>ss r/\r.length=a.length+b.length+c.length):=⟨λh=>by
 unfold j7
 refine T.zj ⟨qz,by simp; omega,qz⟩ (T.zi ⟨λx N => ?_,by simp; omega⟩)
 simp at N
 rcases N with k | k | k
 ·exact h.2.1 x k
 ·exact h.2.2.1 x k
 ·exact h.2.2.2 x k⟩
instance (f:Form) (d:List zx) (s:List zx×Int):Sp (lI f d f.2.2.2.2.2.1 (f.2.2.2.2.2.1.length:Int) s) (s.2=0/\f.2.2.2.2.2.1.length<=8200/\(∀ x∈f.2.2.2.2.2.1,EK x.2.2.2.1/\EK x.2.2.2.2.1)/\ss s.1/\s.1.length<=10) (λr=>ss r/\r.length<=20000000):=⟨λh=>by
 unfold lI lK
 exact pU f.2.2.2.2.2.1 (zb xj) (λ(_,i)=>i) _ (λ_=>True) (λ(c,i)=>0<=i/\i<=8200/\ss c/\(c.length:Int)<=s.1.length+1200*i) h.2.2.1⟩
instance (f:Form) (d:List zx) (s:List zx×Int):Sp (lJ f d f.2.2.2.2.1 (f.2.2.2.2.1.length:Int) s) (s.2=0/\f.2.2.2.2.1.length<=8200/\(∀ x∈f.2.2.2.2.1,EK x.2.2.2.1/\EK x.2.2.2.2.1)/\ss s.1/\s.1.length<=20000000) (λr=>ss r/\r.length<=40000000):=⟨λh=>by
 unfold lJ lL
 exact pU f.2.2.2.2.1 (zb xl) (λ(_,i)=>i) _ (λ_=>True) (λ(c,i)=>0<=i/\i<=8200/\ss c/\(c.length:Int)<=s.1.length+1200*i) h.2.2.1⟩
theorem FV.fe{f:Form}(h:FV f):(f.2.1.length<=8200/\f.2.2.2.1.length<=8200/\f.2.2.2.2.1.length<=8200/\f.2.2.2.2.2.1.length<=8200)/\(∀ x∈f.2.2.2.2.1,EK x.2.2.2.1/\EK x.2.2.2.2.1)/\(∀ x∈f.2.2.2.2.2.1,EK x.2.2.2.1/\EK x.2.2.2.2.1)/\(∀ x∈f.2.2.2.1,x.1.length<=KK):=by
 obtain⟨⟨_,⟨a2,_⟩,_,⟨a4,b4⟩,⟨a5,_⟩,a6,_⟩,_,_,_,_,c5,c6⟩:=h
 exact⟨⟨a2,a4,a5,a6⟩,λx N=>(c5 x N).2.2.2.2,λx N=>(c6 x N).2.2.2,b4⟩
instance (f:Form) (d:List zx):Sp (mq f d) (FV f/\d.length<=1000000) (λ_=>True):=⟨λh=>by
 obtain⟨h1,M,h3,_⟩:=FV.fe h.1
 unfold mq
 exact El⟩
instance (l:List dW) (s:Int×List zx):Sp (nF l (l.length:Int) s) (s.1=0/\l.length<=8200/\(∀ x∈l,EK x.2.2.2.1/\EK x.2.2.2.2.1)/\s.2.length<=100000) (λr=>match r with | .inl _=>True | .inr z=>z.1≠0):=⟨λh=>by
 unfold nF nH
 exact pU l (zb xl) (λ(i,_)=>i) _ (λ_=>True) (λ(i,c)=>0<=i/\i<=8200/\c.length<=100000) h.2.2.1⟩
instance (f:Form):Sp (fD f) (FW 8200 f) (λr=>r.1=0->FV f/\f.2.2.2.1.length<=64/\f.2.2.2.2.1.length<=64):=⟨λh=>by
 have h1:FV f->_:=FV.fe
 unfold fD oZ
 exact El⟩
open T PL
instance (f:Form):Sp (sV f) (FW 8200 f) (λ_=>True):=⟨λh=>by unfold sV; exact goq⟩
def PI(p:zc):Prop:=p.1.length<=1000000/\0<=p.2.1/\p.2.1<=p.1.length/\0<=p.2.2.1/\p.2.2.1<=31
def PG(p q:zc):Prop:=PI q/\q.1=p.1/\p.2.1<=q.2.1/\q.2.2.1=p.2.2.1
theorem XO(l:zx)(c:UInt8) : -1<=U1 l c/\U1 l c<l.length:=by
 induction l with
 | nil=>simp[U1]
 | cons b l ih=>unfold U1; rw[List.length_cons]; split; omega; split<;>omega
theorem EW0:EW KK (Expr.mk 0 (false,[],[],()) [] []):=.mk ⟨vF,vF⟩ (by simp[rl]) (qz) (qz) nofun
theorem EWn(n:Lf.Rat)(h:rg n/\rl n<=1700):EW KK (Expr.mk 1 n [] []):=.mk h.1 (by unfold KK; omega) (qz) (qz) nofun
theorem EWz:EW KK (Expr.mk 1 (false,[],[],()) [] []):=.mk ⟨vF,vF⟩ (by simp[rl]) (qz) (qz) nofun
theorem EWs(s:zx)(h:s.length<=KK):EW KK (Expr.mk 2 (false,[],[],()) s []):=.mk ⟨vF,vF⟩ (by simp[rl]) h (qz) nofun
theorem EW1(k:Int)(a:Expr)(h:EW KK a):EW KK (Expr.mk k (false,[],[],()) [] [a]):=.mk ⟨vF,vF⟩ (by simp[rl]) (qz) (by unfold KK; simp) (by simpa using h)
theorem EW2(k:Int)(a b:Expr)(h:EW KK a)(g:EW KK b):EW KK (Expr.mk k (false,[],[],()) [] [a,b]):=.mk ⟨vF,vF⟩ (by simp[rl]) (qz) (by unfold KK; simp) (by simpa using⟨h,g⟩)
theorem gop{p:Prop} (h:p:=by
 intros
 repeat' (with_reducible first
  | refine T.zi ?_
  | refine T.zh (λ_ => ?_) (λ_ => ?_)
  | refine T.za ?_
  | refine T.ze ?_
  | refine T.uo ?_ ?_
  | refine T.qw ?_ ?_
  | refine T.vY ?_ ?_
  | refine T.vk ?_ ?_
  | refine T.zj ?_ ?_
  | refine T.vQ (λ_ _ => ?_) (λ_ _ => ?_)
  | refine T.z8 ?_ (λ_ _ => ?_)
  | refine T.vA ?_ (λ_ _ => ?_)
  | refine T.xn ?_
  | dsimp only)
 all_goals grind [xe,uN,ez,jy,j3,Wn,Yb,X7,RY,PI,PG,XO,EW0,EWn,EWs,EW1,EW2,EWz]):p:=h
theorem lpp{σ ρ:Type}{r:σ->T (σ⊕ρ)}{Q:ρ->Prop}(hb:σ->Prop)(μ:σ->Nat){s:σ}(hs:hb s:=by grind [PI,PG])
  (h:∀ s,hb s->(r s).wp λz=>match z with | .inl s'=>hb s'/\μ s'<μ s | .inr y=>Q y:=by
 intros
 repeat' (with_reducible first
  | refine T.zi ?_
  | refine T.zh (λ_ => ?_) (λ_ => ?_)
  | refine T.za ?_
  | refine T.ze ?_
  | refine T.uo ?_ ?_
  | refine T.qw ?_ ?_
  | refine T.vY ?_ ?_
  | refine T.vk ?_ ?_
  | refine T.zj ?_ ?_
  | refine T.vQ (λ_ _ => ?_) (λ_ _ => ?_)
  | refine T.z8 ?_ (λ_ _ => ?_)
  | refine T.vA ?_ (λ_ _ => ?_)
  | refine T.xn ?_
  | dsimp only)
 all_goals grind [xe,uN,ez,jy,j3,Wn,Yb,X7,RY,PI,PG,XO,EW0,EWn,EWs,EW1,EW2,EWz]):(T.loop r s).wp Q:=T.vX hb μ hs h
instance (p:zc):Sp (bp p) (PI p) (PG p):=⟨λh=>by
 unfold bp bq
 exact lpp (PG p) (λq=>(q.1.length-q.2.1).toNat)⟩
instance (e:zx) (p:zc):Sp (uB e p) (PI p) (λr=>PG p r.2/\(r.1=0\/(0<=U1 e (byteOf r.1)/\p.2.1<r.2.2.1))):=⟨λh=>by
 have e1:∀ x:Int,-1000000000<=x->x<=1000000000->qo (qo (x+1)-1)=x:=λx h0 h1=>by rw[qv (x:=x+1) (Z) (Z),qv (Z) (Z)]; omega
 unfold uB dh strings_IndexByte
 exact gop⟩
instance (p:zc):Sp (ku p) (PI p) (λr=>match r with | .inl q=>PI q/\q.1=p.1/\q.2.1=p.2.1/\q.2.2.1=p.2.2.1+1 | .inr z=>z.1.1≠0):=⟨λh=>by
 unfold ku vn
 exact gop⟩
instance (c:Int->T Bool) [∀ x,Sp (c x) True (λ_=>True)] (m f:Int) (p:zc):Sp (bR c m f p) (PI p) (PG p):=⟨λh=>by
 unfold bR y9
 exact lpp (PG p) (λq=>(q.1.length-q.2.1).toNat)⟩
instance (c:Int->T Bool) [∀ x,Sp (c x) True (λ_=>True)] (m:Int) (p:zc):Sp (uC c m p) (PI p) (λr=>PG p r.2/\r.1.length<=1000000):=⟨λh=>by
 unfold uC
 exact gop⟩
instance (a:Int):Sp (jZ a) True (λ_=>True):=⟨λ_=>by unfold jZ; exact gop⟩
def PR(p:zc)(r:(Expr×zc)⊕(xh×zc)):Prop:=match r with | .inl z=>EW KK z.1/\PG p z.2 | .inr z=>z.1.1≠0
instance (p:zc):Sp (kt p) (PI p) (PR p):=⟨λh=>by
 unfold kt vn PR
 exact gop⟩
def PQ(p:zc)(r:(Expr×zc)⊕(xh×zc)):Prop:=(∀ z,r=.inl z->EW KK z.1/\PG p z.2)/\∀ z,r=.inr z->z.1.1≠0
theorem zdQ{p:zc}{r:(Expr×zc)⊕(xh×zc)}(h:PR p r):PQ p r:=⟨λz e=>by subst e; exact h,λz e=>by subst e; exact h⟩
theorem zlS{p:Prop} (h:p:=by
 intros
 repeat' (with_reducible first
  | refine T.zi ?_
  | refine T.zh (λ_ => ?_) (λ_ => ?_)
  | refine T.za ?_
  | refine T.ze ?_
  | refine T.uo ?_ ?_
  | refine T.qw ?_ ?_
  | refine T.vY ?_ ?_
  | refine T.vk ?_ ?_
  | refine T.zj ?_ ?_
  | refine T.vQ (λ_ _ => ?_) (λ_ _ => ?_)
  | refine T.z8 ?_ (λ_ _ => ?_)
  | refine T.vA ?_ (λ_ _ => ?_)
  | refine T.xn ?_
  | dsimp only)
 all_goals grind [xe,uN,ez,jy,j3,PI,PG,PQ,XO,EW0,EWn,EWs,EW1,EW2,EWz]):p:=h
theorem Rs{g:zc->T ((Expr×zc)⊕(xh×zc))}{a0:Int}{s:zx}(hg:∀ y,PI y/\a0<y.2.1/\y.1=s->(g y).wp (PQ y))(p:zc)(hp:PI p/\a0<=p.2.1/\p.1=s):(vC g p).wp (PQ p):=by
 unfold vC
 refine T.se (x:=p) (λp=>PI p/\a0<=p.2.1/\p.1=s) (λp=>(p.1.length-p.2.1).toNat) (λp r=>PQ p r) ?_ ?_ hp
 ·intro F F' hF x
  unfold uu
  exact mono
 ·intro p hp F hF
  have h1:∀ y,Sp (F y) ((PI y/\a0<=y.2.1/\y.1=s)/\(y.1.length-y.2.1).toNat<(p.1.length-p.2.1).toNat) (PQ y):=λy=>⟨λh=>hF y h.1 h.2⟩
  have M:∀ y,Sp (g y) (PI y/\a0<y.2.1/\y.1=s) (PQ y):=λy=>⟨hg y⟩
  have h3:∀ p,Sp (kt p) (PI p) (PQ p):=λp=>⟨λh=>T.wm (Sp.sp h) λ_=>zdQ⟩
  clear hF hg
  unfold uu vn
  exact zlS
open T PL
section
variable {g:zc->T ((Expr×zc)⊕(xh×zc))} {a0:Int} {s:zx}
theorem zgB(a b:UInt8):([a,b]:zx).length=2:=rfl
theorem IG{p:Prop} (h:p:=by
 intros
 repeat' (with_reducible first
  | refine T.zi ?_
  | refine T.zh (λ_ => ?_) (λ_ => ?_)
  | refine T.za ?_
  | refine T.ze ?_
  | refine T.uo ?_ ?_
  | refine T.qw ?_ ?_
  | refine T.vY ?_ ?_
  | refine T.vk ?_ ?_
  | refine T.zj ?_ ?_
  | refine T.vQ (λ_ _ => ?_) (λ_ _ => ?_)
  | refine T.z8 ?_ (λ_ _ => ?_)
  | refine T.vA ?_ (λ_ _ => ?_)
  | refine T.xn ?_
  | dsimp only)
 all_goals grind [xe,PG,PQ,PI,XO,EW0,EW2,zgB]):p:=h
theorem z8F{e:zx}(he:e.length=2)(k:xh)(hk:∀ y,PI y/\a0<=y.2.1/\y.1=s->(vC g y).wp (PQ y))(p:zc)(hp:PI p/\a0<=p.2.1/\p.1=s):(wq g () e k p).wp (PQ p):=by
 have h1:∀ y,Sp (vC g y) (PI y/\a0<=y.2.1/\y.1=s) (PQ y):=λy=>⟨hk y⟩
 clear hk
 have h5:∀ c,U1 e c<2:=λc=>by have:=(XO e c).2; omega
 have M:∀ z,Sp (vb g e k z) (PG p z.1/\EW KK z.2.2) (λr=>(∀ z,r=.inl z->EW KK z.2.1/\PG p z.1)/\∀ z,r=.inr z->z.1.1≠0):=λz=>⟨λh=>by
  unfold vb
  refine T.vX (λ(q,_,x)=>PG p q/\EW KK x) (λ(q,_,_)=>(q.1.length-q.2.1).toNat) h ?_
  unfold vd strings_IndexByte xe
  exact IG⟩
 unfold wq
 exact IG
theorem Ls(hg:∀ y,PI y/\a0<y.2.1/\y.1=s->(g y).wp (PQ y))(p:zc)(hp:PI p/\a0<=p.2.1/\p.1=s):(vt g p).wp (PQ p):=by
 have h1:∀ e:zx,e.length=2->∀ k,Sp (wq g () e k p) True (PQ p):=λe he k=>⟨λ_=>z8F he k (Rs hg) p hp⟩
 have M:=h1 [42,47] rfl
 clear h1 hg
 unfold vt
 exact IG
theorem z8G{e:zx}(he:e.length=2)(k:xh)(hk:∀ y,PI y/\a0<=y.2.1/\y.1=s->(vt g y).wp (PQ y))(p:zc)(hp:PI p/\a0<=p.2.1/\p.1=s):(wk g () e k p).wp (PQ p):=by
 have h1:∀ y,Sp (vt g y) (PI y/\a0<=y.2.1/\y.1=s) (PQ y):=λy=>⟨hk y⟩
 clear hk
 have h5:∀ c,U1 e c<2:=λc=>by have:=(XO e c).2; omega
 have M:∀ z,Sp (wV g e k z) (PG p z.1/\EW KK z.2.2) (λr=>(∀ z,r=.inl z->EW KK z.2.1/\PG p z.1)/\∀ z,r=.inr z->z.1.1≠0):=λz=>⟨λh=>by
  unfold wV
  refine T.vX (λ(q,_,x)=>PG p q/\EW KK x) (λ(q,_,_)=>(q.1.length-q.2.1).toNat) h ?_
  unfold wW strings_IndexByte xe
  exact IG⟩
 unfold wk
 exact IG
end
instance (p:zc):Sp (cJ p) (PI p) (PQ p):=⟨λh=>by
 unfold cJ
 refine T.se (x:=p) PI (λp=>(p.1.length-p.2.1).toNat) PQ ?_ ?_ h
 ·intro g g' hg x
  unfold kV wk wV wW vt wq vb vd vC uu
  exact mono
 ·intro p hp g hg
  have h1:=z8G (g:=g) (a0:=p.2.1) (s:=p.1) (e:=[43,45]) rfl (3,4,()) (Ls λy h=>hg y h.1 (by grind [PI])) p ⟨hp,Z,rfl⟩
  have M:Sp (wk g () ([43,45]:zx) (3,4,()) p) True (PQ p):=⟨λ_=>h1⟩
  clear hg h1
  unfold kV
  exact IG⟩
instance (s:zx):Sp (r7 s) (s.length<=1000000) (λr=>EW KK r.1):=⟨λh=>by
 unfold r7 ig vn gE yS
 exact IG⟩
open T PL
def wd(l:List zx):Prop:=∀ s∈l,1<=s.length/\s.length<=20000
theorem zda(c:UInt8):∀ (s cur:zx),cur.length+s.length<=20000->wd (sd c cur s)/\(sd c cur s).length<=s.length+1:=by
 intro s
 induction s with
 | nil=>intro cur h; unfold sd; split; exact⟨nofun,qz⟩; rename_i e; exact⟨λx N=>by rw[qL.1 N]; have:=qT.2 e; simp at h; omega,qz⟩
 | cons b s ih =>
  intro cur h
  rw[List.length_cons]at h
  unfold sd
  split
  ·split
   ·have:=ih [] (by simp; omega); exact⟨this.1,by rw[List.length_cons]; omega⟩
   ·rename_i e
    have:=ih [] (by simp; omega)
    refine⟨λx N => ?_,by simp; omega⟩
    rcases xL.1 N with rfl | N
    ·have:=qT.2 e; omega
    ·exact this.1 x N
  ·have:=ih (cur++[b]) (by simp; omega)
   exact⟨this.1,by rw[List.length_cons]; omega⟩
instance (s:zx):Sp (sY s) (s.length<=20000) (λr=>wd r/\r.length<=20001/\(s.length=0->r.length=0)):=⟨λh=>by
 unfold sY strings_FieldsFunc
 have:=zda 32 s [] (by simpa using h)
 refine T.xn (T.zj (Z) (T.zi (T.zi ⟨this.1,Z,λe => ?_⟩)))
 rw[V e]; rfl⟩
theorem RR(l c:zx) : -1<=rf l c/\rf l c<l.length:=by
 induction l with
 | nil=>simp[rf]
 | cons b l ih=>unfold rf; rw[List.length_cons]; split; omega; split<;>omega
theorem gow{p:Prop} (h:p:=by
 intros
 repeat' (with_reducible first
  | refine T.zi ?_
  | refine T.zh (λ_ => ?_) (λ_ => ?_)
  | refine T.za ?_
  | refine T.ze ?_
  | refine T.uo ?_ ?_
  | refine T.qw ?_ ?_
  | refine T.vY ?_ ?_
  | refine T.vk ?_ ?_
  | refine T.zj ?_ ?_
  | refine T.vQ (λ_ _ => ?_) (λ_ _ => ?_)
  | refine T.z8 ?_ (λ_ _ => ?_)
  | refine T.vA ?_ (λ_ _ => ?_)
  | refine T.xn ?_
  | dsimp only)
 all_goals grind [xe,uN,ez,jy,vS,j3,wd,X7,RY,MX,EW0,Yb,Wn,zgB,Di,Ho]):p:=h
instance (b:zx):Sp (strings_IndexAny b [60,61]) (b.length<=1000000) (λr => -1<=r/\r<b.length):=⟨λh=>by
 unfold strings_IndexAny
 exact T.zj ⟨Z,qz,qz,xm⟩ (T.zi (RR _ _))⟩
instance (a b:zx):Sp (strings_HasPrefix a b) True (λr=>r=true->b.length<=a.length):=⟨λ_=>by unfold strings_HasPrefix jT; exact gow⟩
instance (a b:zx):Sp (strings_Contains a b) (a.length<=1000000) (λ_=>True):=⟨λh=>by unfold strings_Contains; exact gow⟩
instance (b v:zx):Sp (dx b v) (b.length<=20000/\v.length<=10) (λr=>EW KK r.1/\EW KK r.2.1):=⟨λh=>by
 have e1:([61]:zx).length=1:=rfl
 unfold dx
 exact gow⟩
instance (l:List zx) (n i:Int) (s:zx):Sp (np l n i s) (0<=i/\i<n) (λr=>r=true->l.length=n):=⟨λh=>by unfold np; exact gow⟩
instance (l:List zx) (i:Int):Sp (nn l i) (wd l/\0<=i/\i<=10) (λr=>r.1.length<=20000):=⟨λh=>by
 have h1:∀ j:Int,0<=j->j<l.length->1<=(nth l j (zb .str)).length/\(nth l j (zb .str)).length<=20000:=λj h0 h1=>h.1 _ (xw h0 h1)
 unfold nn
 exact gow⟩
end Go.AM.Lf
