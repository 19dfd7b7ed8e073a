/-
  Plain laws of the lifted program, part 0.
-/
import Derived.Test.YtgminpdghejlhaaGreatDoorLf1
import Derived.Test.YtgminpdghejlhaaGreatDoorAmA
import Derived.Test.YtgminpdghejlhaaGreatDoorAmD
import Derived.KernelRfl
set_option linter.unusedVariables false
open Int renaming toNat_natCast -> zA, eq_ofNat_of_zero_le -> qO, tdiv -> xK, tmod -> xL
open Nat renaming mul_le_mul_right -> Y, mul_comm -> W, pow_succ -> zE, lt_of_le_of_lt -> zF, mul_le_mul_left -> zI, gcd -> zJ, div_lt_iff_lt_mul -> zL, le_div_iff_mul_le -> zM, le_trans -> zN, pos_of_ne_zero -> zO, le_refl -> zP, strongRecOn -> zR, pow_pos -> zU, lt_of_mul_lt_mul_right -> zW, mod_lt -> zX, pow_le_pow_right -> zZ, pow_add -> qB, eq_zero_or_pos -> qC, div_add_mod -> qD, mul_lt_mul_of_pos_right -> qE, add_comm -> qH, add_zero -> qI, div_eq_of_lt -> qJ, mul_assoc -> qK, div_le_self -> qM, xor_lt_two_pow -> qN, mul_add -> qP, div_div_eq_div_mul -> qT, mod_eq_of_lt -> qV, div_mul_le_self -> qY, mul_le_mul -> xA, mul_lt_mul_of_lt_of_le -> xB, eq_of_mul_eq_mul_left -> xC, or_lt_two_pow -> xD, zero_le -> xE, add_assoc -> xF, and_le_left -> xH, gcd_le_left -> xI, mul_mod_mul_right -> xJ
open List renaming replicate -> I, eq_nil_of_length_eq_zero -> zG, take_of_length_le -> zK, getD_eq_getElem?_getD -> zQ, mem_append -> zS, take_set_of_le -> zT, mem_singleton -> zV, length_replicate -> zY, flatMap_append -> qA, drop_drop -> qF, drop_zero -> qG, append_assoc -> qR, take_succ_eq_append_getElem -> qS, getElem?_eq_none -> qU, map_append -> qW, replicate_succ -> qX, getElem?_take -> qZ, length_eq_zero_iff -> xG, mem_of_mem_drop -> xM, mem_of_mem_take -> xN, drop -> xO, mem_map -> xP
open BitVec renaming ofInt -> zH
open SizeOf renaming sizeOf -> qL
open Go.IntKind renaming wrap -> qQ
open Sum renaming elim -> xQ
open Go.AM.T (GX J8 J9 V1 XN Zm bI fX gA ij je lI sd tH vF vM xe xz z9V zq)
namespace Go.AM.PL
def nv:List Int->Nat
 | []=>0
 | x::l=>x.toNat+4294967296*nv l
def qy(l:List Int):Prop:=∀ x∈l,0<=x/\x<4294967296
def vU(n:Nat):List Int:=if h:n=0 then[]else((n % 4294967296:Nat):Int)::vU (n / 4294967296)
termination_by n
decreasing_by omega
theorem hJ:vU 0=[]:=by rw[vU]; rfl
theorem Wo{n:Nat}(h:n≠0):vU n=((n % 4294967296:Nat):Int)::vU (n / 4294967296):=by rw[vU,dif_neg h]
theorem vL:qy []:=λ_ h=>nomatch h
theorem bq{x:Int}{l:List Int}:qy (x::l)↔(0<=x/\x<4294967296)/\qy l:=by
 unfold qy; simp
theorem UD{a b:List Int}:qy (a++b)↔qy a/\qy b:=by
 unfold qy; simp
 grind
theorem Vp{a:List Int}(h:qy a)(n:Nat):qy (a.take n):=λx U=>h x (xN U)
theorem sb{a:List Int}(h:qy a)(n:Nat):qy (a.drop n):=λx U=>h x (xM U)
theorem vT(n:Nat):qy (I n 0):=λx U=>by
 grind
theorem BE{a:List Int}(h:qy a)(i:Nat){x:Int}(h0:0<=x)(h1:x<4294967296):qy (a.set i x):=λy hy=>by
 rcases List.mem_or_eq_of_mem_set hy with h' | h'
 ·exact h y h'
 ·grind
theorem fV{a:List Int}(h:qy a)(i:Int):0<=nth a i 0/\nth a i 0<4294967296:=by
 unfold nth
 rw[zQ]
 cases U:a[i.toNat]? with
 | none=>simp
 | some x=>exact h x (List.mem_of_getElem? U)
theorem wM(n:Nat):qy (vU n):=by
 induction n using zR with
 | _ n ih =>
  by_cases h:n=0
  ·subst h; rw[hJ]; exact vL
  ·rw[Wo h]
   exact bq.2 ⟨Z,ih _ (Z)⟩
@[simp] theorem z3q:nv []=0:=rfl
@[simp] theorem Wm(x:Int)(l:List Int):nv (x::l)=x.toNat+4294967296*nv l:=rfl
@[simp] theorem ju(n:Nat):nv (vU n)=n:=by
 induction n using zR with
 | _ n ih =>
  by_cases h:n=0
  ·subst h; rw[hJ]; rfl
  ·rw[Wo h,Wm,ih _ (Z)]; omega
theorem pT(a b:List Int):nv (a++b)=nv a+4294967296 ^ a.length*nv b:=by
 induction a with
 | nil=>simp
 | cons x a ih=>simp only[List.cons_append,Wm,ih,List.length_cons,zE,qP]; rw[<- qK,W 4294967296 (4294967296 ^ a.length)]; omega
theorem GA{l:List Int}(h:qy l):nv l<4294967296 ^ l.length:=by
 induction l with
 | nil=>simp
 | cons x l ih =>
  have h':=bq.1 h
  have:=ih h'.2
  simp
  omega
@[simp] theorem z9j(n:Nat):nv (I n 0)=0:=by
 induction n with
 | zero=>rfl
 | succ n ih=>simp[qX,ih]
def Jb(l:List Int):Prop:=∀ x,l.getLast? = some x->x≠0
theorem H8{x:Int}{l:List Int}(h:Jb (x::l)):Jb l:=by
 cases l with
 | nil=>nofun
 | cons y l=>intro z hz; exact h z (wa)
theorem Mp{l:List Int}(h:qy l)(ht:Jb l)(hn:l≠[]):nv l≠0:=by
 induction l with
 | nil=>grind
 | cons x l ih =>
  have h':=bq.1 h
  cases l with
  | nil =>
   have:=ht x rfl
   simp; omega
  | cons y l =>
   have:=ih h'.2 (H8 ht) (qu)
   rw[Wm]; omega
theorem DB{l:List Int}(h:qy l)(ht:Jb l):vU (nv l)=l:=by
 induction l with
 | nil=>exact hJ
 | cons x l ih =>
  have h':=bq.1 h
  have h1:=ih h'.2 (H8 ht)
  rw[Wo (Mp h ht (qu)),Wm]
  grind
theorem dS{n:Nat}:vU n=[]↔n=0:=by
 constructor
 ·intro h; rw[<- ju n,h]; rfl
 ·rintro rfl; exact hJ
theorem Gz(l:List Int):nv (l++[0])=nv l:=by simp[pT]
theorem uL{n k:Nat}:(vU n).length<=k↔n<4294967296 ^ k:=by
 induction k generalizing n with
 | zero =>
  simp only[Nat.le_zero_eq,xG,dS]; omega
 | succ k ih =>
  by_cases h:n=0
  ·grind
  ·rw[Wo h,List.length_cons,zE,Nat.add_le_add_iff_right,ih]
   grind
theorem Mt{n k:Nat}:k<(vU n).length↔4294967296 ^ k<=n:=by
 have:=uL (n:=n) (k:=k); omega
theorem vQ{l:List Int}(h:qy l):(vU (nv l)).length<=l.length:=uL.2 (GA h)
theorem Dv{a b:List Int}(i:Int)(h:(a.length:Int)<=i):nth (a++b) i 0=nth b (i-a.length) 0:=by
 unfold nth
 grind
theorem V4(a:List Int)(i:Nat)(h:i<a.length):a.take (i+1)=a.take i++[nth a i 0]:=by
 rw[qS h]; simp[nth,h]
theorem Dz{a:List Int}{i:Nat}(h:i<a.length):nv (a.take (i+1))=nv (a.take i)+4294967296 ^ i*(nth a i 0).toNat:=by
 rw[V4 a i h,pT]
 have:(a.take i).length=i:=by simp; omega
 simp[this]
theorem nR(a:List Int)(i:Nat)(h:i<=a.length):nv a=nv (a.take i)+4294967296 ^ i*nv (a.drop i):=by
 have:=pT (a.take i) (a.drop i)
 rw[List.take_append_drop]at this
 grind
theorem I3{a:List Int}{i:Nat}(h:i<a.length):nv (a.drop i)=(nth a i 0).toNat+4294967296*nv (a.drop (i+1)):=by
 rw[List.drop_eq_getElem_cons h,Wm]; simp[nth,h]
theorem Kz{α:Type}(a:List α)(i j:Nat)(x:α)(h:j<=i):(a.set i x).take j=a.take j:=by
 rw[zT h]
theorem V3(a:List Int)(i:Nat)(x:Int)(h:i<a.length):(a.set i x).take (i+1)=a.take i++[x]:=by
 rw[V4 _ _ (wa),zT (zP _)]
 simp[nth,h]
theorem cT(a:List Int)(i:Nat)(x:Int):(a.set i x).drop (i+1)=a.drop (i+1):=by
 rw[List.drop_set_of_lt (Z)]
end Go.AM.PL
namespace Go.AM.T
variable {σ ρ:Type}
theorem cR{r:σ->T (σ⊕ρ)}(zC:σ->Prop)(μ:σ->Nat)(Q:ρ->Prop)
  (h:∀ s,zC s->(∃ s',(r s).run=some (.inl s')/\zC s'/\μ s'<μ s)\/(∃ x,(r s).run=some (.inr x)/\Q x)) {s:σ} (hs:zC s):∃ x,(loop r s).run=some x/\Q x:=by
 generalize hm:μ s=m
 induction m using zR generalizing s with
 | _ m ih =>
  rcases h s hs with⟨s',h1,X,h3⟩ | ⟨x,h1,X⟩
  ·rw[Zm h1]
   grind
  ·exact⟨x,fX h1,X⟩
end Go.AM.T
namespace Go.AM.PL
def lm(a:List Int)(i:Nat):Nat:=(nth a (i:Int) 0).toNat
theorem lZ{a:List Int}(h:qy a)(i:Nat):lm a i<4294967296:=by have:=fV h i; unfold lm; omega
theorem lv{a:List Int}(h:qy a)(i:Nat):nth a (i:Int) 0=(lm a i:Int):=by have:=fV h i; unfold lm; omega
theorem pC{a:List Int}(h:qy a)(i:Nat):wo a i 0=(lm a i:Int):=by have:=lv h i; unfold nth at this; unfold wo; simpa using this
theorem zic{a:List Int}{i:Nat}(h:a.length<=i):lm a i=0:=by
 unfold lm nth; simp[qU h]
theorem vi(a:List Int)(i:Nat):nv (a.take (i+1))=nv (a.take i)+4294967296 ^ i*lm a i:=by
 by_cases h:i<a.length
 ·exact Dz h
 ·rw[zic (Z),zK (Z),zK (Z)]; simp
theorem hH{a:List Int}{i:Nat}(h:a.length<=i):nv (a.take i)=nv a:=by rw[zK h]
theorem JL{a:List Int}{i j:Nat}{x:Int}(h:i<a.length):lm (a.set i x) j=if i=j then x.toNat else lm a j:=by
 unfold lm nth
 grind
theorem Dy{a:List Int}{i:Nat}(x:Int)(h:i<a.length):nv (a.set i x)+4294967296 ^ i*lm a i=nv a+4294967296 ^ i*x.toNat:=by
 have h1:=nR (a.set i x) (i+1) (wa)
 have X:=nR a (i+1) (Z)
 rw[cT,V3 a i x h,pT]at h1
 rw[vi]at X
 have h3:(a.take i).length=i:=by simp; omega
 rw[h3]at h1
 simp at h1
 omega
theorem tB{a:List Int}{i:Nat}(x:Int)(h:i<a.length):nv ((a.set i x).take (i+1))=nv (a.take i)+4294967296 ^ i*x.toNat:=by
 rw[V3 a i x h,pT]
 have h3:(a.take i).length=i:=by simp; omega
 rw[h3]; simp
theorem Ig(i:Nat):0<4294967296 ^ i:=wa
theorem cG{a:List Int}(h:qy a)(i:Nat):nv (a.take i)<4294967296 ^ i:=by
 have:=GA (Vp h i)
 have X:(4294967296:Nat) ^ (a.take i).length<=4294967296 ^ i:=zZ (Z) (wa)
 omega
def EL(a b:Nat):Int:=if a<b then -1 else if b<a then 1 else 0
theorem z0B{r:Int->T (Int⊕(Unit⊕Int))}(x y:List Int)(U:qy x)(hy:qy y)(B:x.length=y.length)
  (h:∀ i:Nat,i<x.length->(r (i:Int)).run=some (if nth x i 0<nth y i 0 then .inr (.inr (-1))else if nth y i 0<nth x i 0 then .inr (.inr 1)else .inl ((i:Int)-1)))
  (h0:(r (-1)).run=some (.inr (.inl ()))):(T.loop r ((x.length:Int)-1)).run=some (if nv x<nv y then .inr (-1)else if nv y<nv x then .inr 1 else .inl ()):=by
 have key:∀ n:Nat,n<=x.length->(T.loop r ((n:Int)-1)).run=some (if nv (x.take n)<nv (y.take n)then .inr (-1)else if nv (y.take n)<nv (x.take n)then .inr 1 else .inl ()):=by
  intro n
  induction n with
  | zero=>intro _; simpa using fX h0
  | succ n ih =>
   intro hn
   have e1:((n+1:Nat):Int)-1=(n:Int):=Z
   rw[e1]
   have hr:=h n (Z)
   rw[lv U,lv hy]at hr
   have a1:=cG U n
   have a2:=cG hy n
   rw[vi,vi]
   rcases Nat.lt_trichotomy (lm x n) (lm y n)with c | c | c
   ·have hm:=zI (4294967296 ^ n) (show lm x n+1<=lm y n by omega)
    rw[qP]at hm
    rw[if_pos (Z)]at hr
    rw[if_pos (Z)]
    exact fX hr
   ·rw[if_neg (Z),if_neg (Z)]at hr
    rw[Zm hr,ih (Z),c]
    simp
   ·have hm:=zI (4294967296 ^ n) (show lm y n+1<=lm x n by omega)
    rw[qP]at hm
    rw[if_neg (Z),if_pos (Z)]at hr
    rw[if_neg (Z),if_pos (Z)]
    exact fX hr
 have:=key x.length (zP _)
 rw[List.take_length]at this
 rw[B,List.take_length,<- B]at this
 exact this
theorem JK{A hl:Nat}(h:(vU A).length<(vU hl).length):A<hl:=by
 have h1:=uL.1 (zP (vU A).length)
 have X:=Mt.1 h
 omega
end Go.AM.PL
namespace Go.AM.PL
theorem E2(n:Nat)(h:n<18446744073709551616):qQ .u64 (n:Int)=n:=bf (Z) (Z)
theorem Qy(n:Nat)(h:n<4294967296):qQ .u32 (n:Int)=n:=Ry (Z) (Z)
theorem mb{n:Nat}(h:n<18446744073709551616):wm (n:Int)=n:=bf (Z) (Z)
theorem KF{n:Nat}(h:n<4294967296):ba (n:Int)=n:=Ry (Z) (Z)
theorem kl{a:List Int}(h:qy a)(i:Nat){n:Nat}(h1:n<4294967296):qy (a.set i (n:Int)):=BE h i (Z) (Z)
theorem Et{x y:Nat}(U:x<4294967296)(hy:y<4294967296):Hu .u32 (x:Int) (y:Int)=((x &&& y:Nat):Int):=by
 show qQ .u32 (((zH 32 (x:Int) &&& zH 32 (y:Int)).toNat:Nat):Int)=_
 have e:(zH 32 (x:Int) &&& zH 32 (y:Int)).toNat=x &&& y:=by
  grind
 rw[e]
 exact Qy _ (zF xH U)
theorem Yi{x y:Nat}(U:x<4294967296)(hy:y<4294967296):HU .u32 (x:Int) (y:Int)=((x ||| y:Nat):Int):=by
 show qQ .u32 (((zH 32 (x:Int) ||| zH 32 (y:Int)).toNat:Nat):Int)=_
 have e:(zH 32 (x:Int) ||| zH 32 (y:Int)).toNat=x ||| y:=by
  grind
 rw[e]
 exact Qy _ (xD (n:=32) U hy)
theorem Hc{x y:Nat}(U:x<4294967296)(hy:y<4294967296):N9 .u32 (x:Int) (y:Int)=((x ^^^ y:Nat):Int):=by
 show qQ .u32 (((zH 32 (x:Int) ^^^ zH 32 (y:Int)).toNat:Nat):Int)=_
 have e:(zH 32 (x:Int) ^^^ zH 32 (y:Int)).toNat=x ^^^ y:=by
  grind
 rw[e]
 exact Qy _ (qN (n:=32) U hy)
theorem z9D{x y:Nat}(U:x<18446744073709551616)(hy:y<18446744073709551616):HU .u64 (x:Int) (y:Int)=((x ||| y:Nat):Int):=by
 show qQ .u64 (((zH 64 (x:Int) ||| zH 64 (y:Int)).toNat:Nat):Int)=_
 have e:(zH 64 (x:Int) ||| zH 64 (y:Int)).toNat=x ||| y:=by
  grind
 rw[e]
 exact E2 _ (xD (n:=64) U hy)
theorem My(x y m:Nat)(hy:y<2 ^ m):x*2 ^ m ||| y=x*2 ^ m+y:=by
 have:=Nat.shiftLeft_add_eq_or_of_lt hy x
 rw[Nat.shiftLeft_eq]at this
 grind
theorem zmg{x:Int}(h0:0<=x)(h1:x<4294967296):Zx .u64 x 32=x*4294967296:=by
 have e:Zx .u64 x 32=wm (x*4294967296):=rfl
 rw[e,bf (Z) (Z)]
theorem zoI{x y:Int}(h0:0<=x)(h1:x<4294967296)(X:0<=y)(h3:y<4294967296):HU .u64 (Zx .u64 x 32) (wm y)=x*4294967296+y:=by
 rw[zmg h0 h1,bf X (Z)]
 obtain⟨a,rfl⟩:=qO h0
 obtain⟨b,rfl⟩:=qO X
 have e:=z9D (x:=a*4294967296) (y:=b) (Z) (Z)
 rw[My a b 32 (wa)]at e
 grind
theorem z1A{x y:Int}(h0:0<=x)(h1:x<4294967296)(X:0<=y)(h3:y<4294967296):HU .u64 (Zx .u64 x 32) y=x*4294967296+y:=by
 have:=zoI h0 h1 X h3
 rwa [bf X (Z)]at this
theorem zbp{x:Int}(h0:0<=x):jx .u64 x 32=x / 4294967296:=by
 show Int.fdiv x 4294967296=_
 grind
theorem XV{x y:Int}(h:0<=x):xK x y=x / y:=wa
theorem XW{x y:Int}(h:0<=x):xL x y=x % y:=wa
theorem zfy{v:Nat}(h:v<4294967296):v / 2147483648=if v.testBit 31=true then 1 else 0:=wa
theorem Ln{v:Nat}(h:v<4294967296):v.testBit 31=decide (2147483648<=v):=wa
theorem zmj{x y b:Nat}(U:x<4294967296)(hy:y<4294967296)(J:b<=1) :
  ba (ba ((x:Int)-y)-b)=(((x+4294967296*(if x<y+b then 1 else 0))-y-b:Nat):Int):=by
 rw[ZC,ZC]
 grind
theorem z0s{x y b d:Nat}(U:x<4294967296)(hy:y<4294967296)(J:b<=1)(V:d=(x+4294967296*(if x<y+b then 1 else 0))-y-b) :
  jx .u32 (HU .u32 (Hu .u32 (N9 .u32 (4294967295:Int) x) y) (Hu .u32 (N9 .u32 (4294967295:Int) (N9 .u32 x y)) (d:Int))) 31=if x<y+b then 1 else 0:=by
 have Fm:d<4294967296:=by rw[V]; split<;>omega
 have e1:=Hc (x:=4294967295) (y:=x) (Z) U
 have h1:4294967295 ^^^ x<4294967296:=qN (n:=32) (Z) U
 have e2:=Et h1 hy
 have X:(4294967295 ^^^ x) &&& y<4294967296:=zF xH h1
 have e3:=Hc U hy
 have h3:x ^^^ y<4294967296:=qN (n:=32) U hy
 have e4:=Hc (x:=4294967295) (y:=x ^^^ y) (Z) h3
 have h4:4294967295 ^^^ (x ^^^ y)<4294967296:=qN (n:=32) (Z) h3
 have e5:=Et h4 Fm
 have h5:(4294967295 ^^^ (x ^^^ y)) &&& d<4294967296:=zF xH h4
 have e6:=Yi X h5
 have h6:=xD (n:=32) X h5
 have ec:(4294967295:Int)=((4294967295:Nat):Int):=rfl
 rw[ec,e1,e2,e3,e4,e5,e6]
 show Int.fdiv _ 2147483648=_
 rw[Int.fdiv_eq_ediv_of_nonneg _ (Z)]
 have e7:=zfy h6
 have e8:(((((4294967295 ^^^ x) &&& y) ||| ((4294967295 ^^^ (x ^^^ y)) &&& d):Nat):Int)) / 2147483648=(((((4294967295 ^^^ x) &&& y) ||| ((4294967295 ^^^ (x ^^^ y)) &&& d)) / 2147483648:Nat):Int):=Z
 rw[e8,e7]
 have t1:(4294967295:Nat).testBit 31=true:=qj
 simp only[Nat.testBit_or,Nat.testBit_and,Nat.testBit_xor,t1,Ln U,Ln hy,Ln Fm]
 by_cases c:x<y+b
 ·rw[if_pos c]at V ⊢
  by_cases p:2147483648<=x<;>by_cases q:2147483648<=y<;>by_cases r:2147483648<=d<;>simp[p,q,r]<;>omega
 ·rw[if_neg c]at V ⊢
  by_cases p:2147483648<=x<;>by_cases q:2147483648<=y<;>by_cases r:2147483648<=d<;>simp[p,q,r]<;>omega
end Go.AM.PL
namespace Go.AM.PL
def dgt(n:Nat):UInt8:=UInt8.ofNat (48+n % 10)
def dgz(n:Nat):zo:=if h:n=0 then[]else dgz (n / 10)++[dgt n]
termination_by n
decreasing_by omega
def pr(n:Nat):zo:=if n=0 then[48]else dgz n
theorem z0L:dgz 0=[]:=by rw[dgz]; rfl
theorem z6y{n:Nat}(h:n≠0):dgz n=dgz (n / 10)++[dgt n]:=by rw[dgz,dif_neg h]
def rd(n:Nat):List Int:=if h:n=0 then[]else((48+n % 10:Nat):Int)::rd (n / 10)
termination_by n
decreasing_by omega
theorem Wu:rd 0=[]:=by rw[rd]; rfl
theorem GP{n:Nat}(h:n≠0):rd n=((48+n % 10:Nat):Int)::rd (n / 10):=by rw[rd,dif_neg h]
def Qo:Nat->Nat->List Int
 | 0,_=>[]
 | k+1,n=>((48+n % 10:Nat):Int)::Qo k (n / 10)
theorem Ih(k n:Nat):(Qo k n).length=k:=by
 induction k generalizing n with
 | zero=>rfl
 | succ k ih=>simp[Qo,ih]
theorem z3Y(k n:Nat):Qo k (n % 10 ^ k)=Qo k n:=by
 induction k generalizing n with
 | zero=>rfl
 | succ k ih =>
  simp only[Qo]
  have e1:n % 10 ^ (k+1) % 10=n % 10:=Nat.mod_mod_of_dvd _ ⟨10 ^ k,by rw[zE,W]⟩
  have e2:n % 10 ^ (k+1) / 10=n / 10 % 10 ^ k:=by rw[zE,W,Nat.mod_mul_right_div_self]
  rw[e1,e2,ih]
theorem z3W(k n:Nat)(h:n / 10 ^ k≠0):rd n=Qo k n++rd (n / 10 ^ k):=by
 induction k generalizing n with
 | zero=>simp[Qo]
 | succ k ih =>
  have hn:n≠0:=by intro z; subst z; simp at h
  have e:n / 10 ^ (k+1)=n / 10 / 10 ^ k:=by rw[zE,W,qT]
  rw[e]at h ⊢
  rw[GP hn,ih _ h]; rfl
theorem MI(k n:Nat)(h:n / 10 ^ k=0):∃ z,Qo k n=rd n++I z 48:=by
 induction k generalizing n with
 | zero=>simp at h; subst h; exact⟨0,by rw[Wu]; rfl⟩
 | succ k ih =>
  have e:n / 10 ^ (k+1)=n / 10 / 10 ^ k:=by rw[zE,W,qT]
  rw[e]at h
  obtain⟨z,hz⟩:=ih _ h
  simp only[Qo]
  by_cases hn:n=0
  ·subst hn
   refine⟨z+1,?_⟩
   rw[hz]
   simp[Wu,qX]
  ·exact⟨z,by rw[hz,GP hn]; rfl⟩
def blk(n:Nat):List Int:=if h:n=0 then[]else Qo 9 (n % 1000000000)++blk (n / 1000000000)
termination_by n
decreasing_by omega
theorem X6:blk 0=[]:=by rw[blk]; rfl
theorem Y2{n:Nat}(h:n≠0):blk n=Qo 9 (n % 1000000000)++blk (n / 1000000000):=by rw[blk,dif_neg h]
theorem z0r(n:Nat):∃ z,blk n=rd n++I z 48:=by
 induction n using zR with
 | _ n ih =>
  by_cases hn:n=0
  ·subst hn; exact⟨0,by rw[X6,Wu]; rfl⟩
  ·rw[Y2 hn]
   have e:Qo 9 (n % 1000000000)=Qo 9 n:=z3Y 9 n
   rw[e]
   by_cases h:n / 1000000000=0
   ·rw[h,X6,List.append_nil]
    exact MI 9 n h
   ·obtain⟨z,hz⟩:=ih (n / 1000000000) (Z)
    refine⟨z,?_⟩
    rw[hz,<- qR]
    congr 1
    exact(z3W 9 n h).symm
theorem z0K(n:Nat):dgz n=jb (rd n).reverse:=by
 induction n using zR with
 | _ n ih =>
  by_cases hn:n=0
  ·subst hn; rw[z0L,Wu]; rfl
  ·rw[z6y hn,GP hn,ih _ (Z)]
   simp only[List.reverse_cons,jb,qW,List.map_cons,List.map_nil]
   congr 1
theorem zbm{n:Nat}(h:n≠0):rd n≠[]:=by rw[GP h]; simp
theorem z9O(n:Nat):∀ x,(rd n).getLast? = some x->x≠48:=by
 induction n using zR with
 | _ n ih =>
  intro x U
  by_cases hn:n=0
  ·subst hn; rw[Wu]at U; cases U
  ·rw[GP hn]at U
   by_cases X:n / 10=0
   ·rw[X,Wu]at U
    simp at U; omega
   ·refine ih (n / 10) (Z) x ?_
    rw[<- U]
    cases hc:rd (n / 10)with
    | nil=>exact absurd hc (zbm X)
    | cons y l=>rw[List.getLast?_cons_cons]
end Go.AM.PL
namespace Go.AM.PL
theorem YO(q a b c:Nat):q*(a*c+b)=(q*a)*c+q*b:=wa
theorem z0M(a b:Nat):(a+1)*b=a*b+b:=wa
theorem zcg(a b c:Nat):(a+b)*c=a*c+b*c:=wa
theorem Fg{u2 u1 u0 v1 v2 q r:Nat}(hr:q*v1+r=u2*4294967296+u1)(h:q*v2<=r*4294967296+u0) :
  q*(v1*4294967296+v2)<=u2*18446744073709551616+u1*4294967296+u0:=by
 rw[YO]
 generalize q*v1=x at *
 generalize q*v2=y at *
 omega
theorem z13{u2 u1 u0 v1 v2 q r:Nat}(hr:q*v1+r=u2*4294967296+u1)(h:r*4294967296+u0<q*v2) :
  u2*18446744073709551616+u1*4294967296+u0<q*(v1*4294967296+v2):=by
 rw[YO]
 generalize q*v1=x at *
 generalize q*v2=y at *
 grind
theorem z14{hx hd q:Nat}(hV:0<hd)(h:hx<q*hd):hx / hd<q:=(zL hV).2 h
theorem LM{u2 u1 u0 v1 v2:Nat}(hv:0<v1)(hu0:u0<4294967296):(u2*18446744073709551616+u1*4294967296+u0) / (v1*4294967296+v2)<=(u2*4294967296+u1) / v1:=by
 rw[zM hv]
 have h:=qY (u2*18446744073709551616+u1*4294967296+u0) (v1*4294967296+v2)
 generalize (u2*18446744073709551616+u1*4294967296+u0) / (v1*4294967296+v2)=q at *
 have e:=YO q v1 v2 4294967296
 rw[e]at h; omega
theorem Sz{u2 u1 u0 v1 v2:Nat}(hv:2147483648<=v1)(Hn:v2<4294967296)(h:u2*18446744073709551616+u1*4294967296+u0<(v1*4294967296+v2+1)*4294967296) :
  (u2*4294967296+u1)<=v1*4294967296+v2/\(u2*4294967296+u1) / v1<=4294967297:=by
 have h1:u2*4294967296+u1<=v1*4294967296+v2:=Z
 refine⟨h1,?_⟩
 rw[Nat.div_le_iff_le_mul (Z)]
 omega
theorem NN{hx hd D U3 V2 h2 zB q:Nat}(hU:hx=U3*D+h2)(hX:h2<D)(hV:hd=V2*D+zB)(hY:zB<D)(hVt:2147483648*4294967296<=V2)(hUV:hx<hd*4294967296)(hq:q=min (U3 / V2) 4294967295) :
  hx / hd<=q/\q<=hx / hd+1:=by
 have hD:0<D:=Z
 have hV2:0<V2:=Z
 have hVp:0<hd:=by rw[hV]; have:=Nat.mul_pos hV2 hD; omega
 constructor
 ·rw[hq,Nat.le_min]
  constructor
  ·rw[zM hV2]
   have h:=qY hx hd
   generalize hx / hd=z at *
   rw[hV,hU]at h
   have e:=YO z V2 zB D
   rw[e]at h
   have X:(z*V2)*D<(U3+1)*D:=by 
    rw[z0M]
    generalize z*V2*D=m at *
    generalize z*zB=m2 at *
    omega
   exact Nat.lt_succ_iff.1 (zW X)
  ·have:hx / hd<4294967296:=(zL hVp).2 (by rw[W]; exact hUV)
   omega
 ·have h3:q<=U3 / V2:=Z
  have h4:q<=4294967295:=Z
  have h5:q*V2<=U3:=(zM hV2).1 h3
  cases q with
  | zero=>exact xE _
  | succ q =>
   have:q<=hx / hd:=by
    rw[zM hVp,hV,hU]
    have e:=YO q V2 zB D
    have e2:=z0M q V2
    have h6:(q*V2+V2)*D<=U3*D:=Y D (Z)
    have e3:=zcg (q*V2) V2 D
    have h7:q*zB<=4294967295*D:=xA (Z) (Z)
    have h8:4294967295*D<=V2*D:=Y D (Z)
    rw[e]; omega
   omega
end Go.AM.PL
namespace Go.AM.Lf
open PL
@[simp] theorem bN:zb (.int .u32)=(0:Int):=rfl
theorem I2(l:List Int)(x:Int):nth (l++[x]) ((l++[x]).length-1:Int) 0=x:=by
 rw[Dv _ (qu)]; simp[nth]
theorem cf(a:List Int)(h:qy a)(B:a.length<=4000000000):(ue a).run=some (vU (nv a)):=by
 have key:(XE a).run=some (vU (nv a)):=by
  unfold XE
  refine sd (λa=>qy a/\a.length<=4000000000) (λa=>a.length) (λa=>vU (nv a)) ?_ ⟨h,B⟩
  rintro s ⟨h1,X⟩
  rcases List.eq_nil_or_concat s with rfl | ⟨l,x,rfl⟩
  ·right; simp[tA,Qc,hJ]
  ·rw[List.concat_eq_append]at *
   have U:=I2 l x
   have hlen:(l++[x]).length=l.length+1:=qu
   have hw:ql (((l++[x]).length:Int)-1)=((l++[x]).length:Int)-1:=qv (Z) (Z)
   have hIs:(Qc (l++[x])).run=some (x != 0):=by
    unfold Qc
    rw[xe]
    ·simp only[hw,bN,U,xz]
     congr 1
     have:(((l++[x]).length:Int)==0)=false:=by simp; omega
     rw[this]; rfl
    ·intro _; rw[hw]; exact⟨Z,Z⟩
   unfold tA
   rw[zq hIs]
   by_cases Yc:x=0
   ·left
    subst Yc
    refine⟨l,?_,⟨(UD.1 h1).1,Z⟩,Z,by rw[Gz]⟩
    have hc:jS (e:=.int .u32) 0 (((l++[(0:Int)]).length:Int)-1) (l++[0])=l:=by
     unfold jS; simp
    rw[hw,hc]
    simp only[bne_self_eq_false,Bool.not_false,J9]
    rw[XN _ (Z) (Z) (Z),xz]
   ·right
    have J:(x != 0)=true:=by simpa using Yc
    rw[J]
    simp only[Bool.not_true,V1,xz]
    rw[DB h1]
    intro y hy
    simp at hy; omega
 unfold ue
 rw[zq key,xz]
theorem Se(a:List Int)(B:a.length<=4000000000):(yA a).run=some a:=by
 unfold yA
 rw[xe]
 ·cases a with
  | nil=>simp
  | cons x a=>simp only[List.length_cons]at B; simp(disch:=omega)
 ·rintro rfl r hr
  first
  | simpa[T.leads]using hr
  | (obtain⟨_,_,hr⟩:=hr; simpa[T.leads]using hr)
theorem Z2(a:List Int)(h:qy a)(B:a.length<=4000000000):(lj a).run=some (vU (nv a)):=by
 unfold lj
 rw[zq (cf a h B),zq (Se _ (zN (vQ h) B)),xz]
theorem Vz(n:Nat)(h:n<18446744073709551616):(l8 (n:Int)).run=some (vU n):=by
 have e2:ba (jx .u64 (n:Int) 32)=((n / 4294967296:Nat):Int):=by rw[zbp (Z),ZC]; omega
 have e1:ba (n:Int)=((n % 4294967296:Nat):Int):=by rw[ZC]; omega
 have h1:qy [((n % 4294967296:Nat):Int),((n / 4294967296:Nat):Int)]:=by
  intro x U; simp only[List.mem_cons,List.not_mem_nil,or_false]at U; rcases U with rfl | rfl<;>omega
 have X:=cf _ h1 (qu)
 have h3:nv [((n % 4294967296:Nat):Int),((n / 4294967296:Nat):Int)]=n:=by simp only[Wm,z3q]; omega
 unfold l8
 rw[lI _ (Z),e1,e2,zq X,h3,xz]
theorem Kl(a b:List Int)(ha:qy a)(J:qy b)(la:a.length<=1000000000)(lb:b.length<=1000000000):(tw a b).run=some (EL (nv a) (nv b)):=by
 unfold tw
 rw[zq (cf a ha (Z)),zq (cf b J (Z))]
 have qa:=vQ ha
 have qb:=vQ J
 generalize nv a=A at *
 generalize nv b=hl at *
 by_cases B:(vU A).length=(vU hl).length
 ·rw[B,bne_self_eq_false,V1]
  have key:=z0B (r:=se (vU A) (vU hl)) (vU A) (vU hl) (wM A) (wM hl) B (λi hi => ?_) ?_
  ·rw[<- B,qv (Z) (Z)]
   unfold Gx
   rw[zq key,ju,ju]
   unfold EL
   by_cases p:A<hl
   ·simp[p]
   ·by_cases q:hl<A<;>simp[p,q]
  ·have e:ql ((i:Int)-1)=(i:Int)-1:=qv (Z) (Z)
   unfold se
   have Ya:i<(vU hl).length:=Z
   have x1:=lv (wM A) i
   have x2:=lv (wM hl) i
   rcases Nat.lt_trichotomy (lm (vU A) i) (lm (vU hl) i)with c | c | c
   ·have c2:¬ (lm (vU A) i=lm (vU hl) i):=Z
    simp(disch:=omega) [e,x1,x2,c,c2,hi,Ya]<;>omega
   ·simp(disch:=omega) [e,x1,x2,c,hi,Ya]
   ·have c2:¬ (lm (vU A) i=lm (vU hl) i):=Z
    have c3:¬ (lm (vU A) i<lm (vU hl) i):=Z
    simp(disch:=omega) [e,x1,x2,c,c2,c3,hi,Ya]<;>omega
  ·simp[se]
 ·rw[vM (by simp; omega)]
  unfold EL
  by_cases c:(vU A).length<(vU hl).length
  ·have:=JK c
   simp[c,this]
  ·have X:=JK (show(vU hl).length<(vU A).length by omega)
   have h3:¬ A<hl:=Z
   simp[c,X,h3]
theorem z27(n:Nat):ba (n:Int)=((n % 4294967296:Nat):Int):=by rfl
theorem Ft(n:Nat):jx .u64 (n:Int) 32=((n / 4294967296:Nat):Int):=by rw[zbp (Z)]; omega
theorem i1(i:Nat)(h:i<=4000000000):ql ((i:Int)+1)=((i+1:Nat):Int):=by rw[qv (Z) (Z)]; omega
theorem im1(i:Nat)(h:i<=4000000000):ql (((i+1:Nat):Int)-1)=(i:Int):=by rw[qv (Z) (Z)]; omega
theorem JP{x y:Nat}(U:x<4294967296)(hy:y<4294967296):x*y<=18446744065119617025:=xA (show x<=4294967295 by omega) (show y<=4294967295 by omega)
theorem mL(xs:List Int)(i:Nat)(x:Int)(j:Nat)(h:i≠j):lm (xs.set i x) j=lm xs j:=by
 by_cases hi:i<xs.length
 ·rw[JL hi,if_neg h]
 ·rw[List.set_eq_of_length_le (Z)]
theorem Ye{a:List Int}{i:Nat}(h:i<a.length):nv (a.drop i)=lm a i+4294967296*nv (a.drop (i+1)):=I3 h
theorem set_drop{a:List Int}{i:Nat}(x:Int)(h:i<a.length):nv ((a.set i x).drop i)=x.toNat+4294967296*nv (a.drop (i+1)):=by
 rw[Ye (wa),cT,JL h,if_pos rfl]
theorem Sj{hi lo y:Nat}(h0:hi<y)(h1:lo<4294967296)(X:y<4294967296) :
  (fp (hi:Int) (lo:Int) (y:Int)).run=some ((((hi*4294967296+lo) / y:Nat):Int),(((hi*4294967296+lo) % y:Nat):Int)):=by
 have e1:=z1A (x:=(hi:Int)) (y:=(lo:Int)) (Z) (Z) (Z) (Z)
 have ey:wm (y:Int)=y:=bf (Z) (Z)
 have eh:wm (hi:Int)=hi:=bf (Z) (Z)
 have el:wm (lo:Int)=lo:=bf (Z) (Z)
 have hq:(hi*4294967296+lo) / y<4294967296:=by
  rw[zL (Z)]
  grind
 have hr:(hi*4294967296+lo) % y<y:=zX _ (Z)
 have e2:(hi:Int)*4294967296+(lo:Int)=((hi*4294967296+lo:Nat):Int):=Z
 have e3:xK ((hi*4294967296+lo:Nat):Int) (y:Int)=(((hi*4294967296+lo) / y:Nat):Int):=by rw[XV (Z)]; rfl
 have e4:xL ((hi*4294967296+lo:Nat):Int) (y:Int)=(((hi*4294967296+lo) % y:Nat):Int):=by rw[XW (Z)]; rfl
 unfold fp
 rw[je (wa)]
 simp only[ey,eh,el,e1,e2,e3,e4]
 rw[lI _ (Z),tH _ (Z),tH _ (Z),xz,mb (Z),KF hq,KF (Z)]
theorem MR{A Q r y l q:Nat}(h:A=Q*y+r)(hq:q=(r*4294967296+l) / y):l+4294967296*A=(q+4294967296*Q)*y+(r*4294967296+l) % y:=by
 have:=qD (r*4294967296+l) y
 grind
theorem WZ(a:List Int)(ha:qy a)(la:a.length<=1000000000)(y:Nat)(h0:0<y)(h1:y<4294967296):(pS a (y:Int)).run=some (vU (nv a / y),((nv a % y:Nat):Int)):=by
 have loop:∃ r:Int×List Int,(UQ a (y:Int) (0,(a.length:Int)-1,I a.length 0)).run=some r/\∃ m:Nat,r.1=(m:Int)/\m<y/\qy r.2/\r.2.length=a.length/\nv a=nv r.2*y+m:=by
  refine T.cR (λs:Int×Int×List Int=>∃ (m i:Nat),s.1=(m:Int)/\s.2.1=(i:Int)-1/\m<y/\i<=a.length/\qy s.2.2/\s.2.2.length=a.length/\nv (a.drop i)=nv (s.2.2.drop i)*y+m)
   (λs=>(s.2.1+1).toNat) _ ?_ ⟨0,a.length,rfl,rfl,h0,zP _,vT _,qu,qu⟩
  rintro⟨_,_,xs⟩ ⟨m,i,rfl,rfl,hm,hi,B,hn,hv⟩
  simp only at B hn hv ⊢
  cases i with
  | zero =>
   right
   refine⟨((m:Int),xs),?_,m,rfl,hm,B,hn,by simpa using hv⟩
   unfold pB
   simp
  | succ i =>
   left
   have U:=lZ ha i
   have e1:((i+1:Nat):Int)-1=(i:Int):=Z
   have V:=Sj hm U h1
   have hq:(m*4294967296+lm a i) / y<4294967296:=by
    rw[zL (Z)]
    grind
   have ei:ql ((i:Int)-1)=(i:Int)-1:=qv (Z) (Z)
   refine⟨((((m*4294967296+lm a i) % y:Nat):Int),(i:Int)-1,xs.set i (((m*4294967296+lm a i) / y:Nat):Int)),?_,⟨_,i,rfl,rfl,zX _ h0,Z,kl B _ hq,by simpa using hn,?_⟩,qu⟩
   ·unfold pB
    simp only[e1,bN,lv ha,J8,ei]
    rw[if_pos (qu),vF _ (Z) (Z),zq V]
    simp(disch:=omega) [hn]
   ·simp only
    rw[Ye (Z),set_drop _ (Z),zA]
    exact MR hv rfl
 obtain⟨⟨_,xs⟩,hr,m,rfl,hm,B,hn,hv⟩:=loop
 simp only at B hn hv
 unfold pS
 rw[qv (Z) (Z)]
 simp only[zA,zY]
 rw[T.run_mk _ (Z) (Z) (Z) (Z),bI _ rfl rfl rfl,xe rfl,zq hr]
 simp only[Nat.zero_add,qG,List.take_length]
 have e1:nv a / y=nv xs:=by rw[hv,W,Nat.mul_add_div h0,qJ hm,qI]
 have e2:nv a % y=m:=by rw[hv,W,Nat.mul_add_mod,qV hm]
 rw[xe rfl,zq (cf xs B (Z)),xz,e1,e2]
theorem MO{v s:Nat}(hv:v<4294967296)(hs:s<=32):Zx .u64 (v:Int) (s:Int)=((v*2 ^ s:Nat):Int):=by
 have h1:2 ^ s<=2 ^ 32:=zZ (Z) hs
 have X:v*2 ^ s<=4294967295*4294967296:=xA (Z) h1
 have e:min (s:Int).toNat 64=s:=by simp; omega
 show wm ((v:Int)*2 ^ (min (s:Int).toNat 64))=_
 rw[e]
 have e2:(v:Int)*2 ^ s=((v*2 ^ s:Nat):Int):=qu
 rw[e2,mb (Z)]
theorem zeq{v s:Nat}(hs:s<=64):jx .u64 (v:Int) (s:Int)=((v / 2 ^ s:Nat):Int):=by
 show Int.fdiv (v:Int) (2 ^ (min (s:Int).toNat 64))=_
 grind
theorem zed{h m s:Nat}(hh:h<2 ^ s):h ||| m*2 ^ s=h+m*2 ^ s:=by rw[Nat.or_comm,My m h s hh,qH]
theorem I1(v s:Nat)(hs:s<=32):v*2 ^ s % 4294967296=(v % 2 ^ (32-s))*2 ^ s:=by
 have e:(4294967296:Nat)=2 ^ (32-s)*2 ^ s:=by rw[<- qB]; rw[show 32-s+s=32 by omega]
 rw[e,xJ]
theorem SW{h v s:Nat}(hh:h<2 ^ s)(hv:v<4294967296)(hs:s<32) :
  HU .u32 (h:Int) (ba ((v*2 ^ s:Nat):Int))=((h+v*2 ^ s % 4294967296:Nat):Int)/\h+v*2 ^ s % 4294967296<4294967296/\v*2 ^ s / 4294967296<2 ^ s:=by
 have e1:=I1 v s (Z)
 have e2:(v % 2 ^ (32-s))*2 ^ s+2 ^ s<=4294967296:=by
  have:v % 2 ^ (32-s)+1<=2 ^ (32-s):=zX _ (zU (Z))
  have:=Y (2 ^ s) this
  rw[<- qB,show 32-s+s=32 by omega]at this
  grind
 refine⟨?_,wa,?_⟩
 ·rw[z27,Yi (Z) (Z),e1,zed hh]
 ·rw[zL (Z),W]
  exact Nat.mul_lt_mul_of_pos_left hv (zU (Z))
theorem FC{h2 h P hd v t A:Nat}(hv:h2+h*P=hd*t)(hA:A=v*t):h2+P*(h+A % 4294967296)+A / 4294967296*(P*4294967296)=(hd+P*v)*t:=by
 have e:A=A % 4294967296+4294967296*(A / 4294967296):=Z
 grind
theorem BD(a:List Int)(ha:qy a)(la:a.length<=1000000000)(s n:Nat)(hs:s<32)(KP:a.length<=n)(D4:n<=a.length+1)(HF:nv a*2 ^ s<4294967296 ^ n) :
  ∃ r,(Ko (s:Int) (n:Int) a (a.length:Int) (0,I n 0)).run=some r/\qy r/\r.length=n/\nv r=nv a*2 ^ s:=by
 refine T.cR (λz:Int×List Int=>∃ i h:Nat,z.1=(i:Int)/\i<=a.length/\qy z.2/\z.2.length=n/\h<2 ^ s/\(i<n->lm z.2 i=h)/\nv (z.2.take i)+h*4294967296 ^ i=nv (a.take i)*2 ^ s)
  (λz=>a.length-z.1.toNat) _ ?_ ⟨0,0,rfl,Z,vT _,qu,zU (Z),λ_ => ?_,qu⟩
 ·rintro⟨_,xs⟩ ⟨i,h,rfl,hi,B,hn,hh,hli,hv⟩
  simp only at B hn hli hv ⊢
  by_cases wO:i<a.length
  ·left
   have U:=lZ ha i
   obtain⟨s1,s2,s3⟩:=SW hh U hs
   have J:wm (lm a i:Int)=lm a i:=mb (Z)
   have hlx:=hli (Z)
   have hp:2 ^ s<=2 ^ 31:=zZ (Z) (Z)
   have e2:ba ((lm a i*2 ^ s / 4294967296:Nat):Int)=((lm a i*2 ^ s / 4294967296:Nat):Int):=KF (Z)
   by_cases JE:i+1<n
   all_goals have zhg:((i:Int)+1<(n:Int))↔(i+1<n):=Z
   ·refine⟨(((i+1:Nat):Int),(xs.set i ((h+lm a i*2 ^ s % 4294967296:Nat):Int)).set (i+1) ((lm a i*2 ^ s / 4294967296:Nat):Int)),?_,
     ⟨i+1,lm a i*2 ^ s / 4294967296,rfl,Z,kl (kl B _ s2) _ (Z),by simpa using hn,s3,λ_ => ?_,?_⟩,by simp; omega⟩
    ·unfold nP
     simp only[bN,lv ha,zA,Nat.zero_add,pC B,J,MO U (show s<=32 by omega),hlx,s1,i1 i (Z),Ft,e2]
     simp(disch:=omega) [wO,hn,JE,zhg]
    ·simp only
     rw[JL (by simp; omega),if_pos rfl,zA]
    ·simp only
     rw[Kz _ _ _ _ (zP _),tB _ (Z),vi,zA,zE]
     exact FC hv rfl
   ·refine⟨(((i+1:Nat):Int),xs.set i ((h+lm a i*2 ^ s % 4294967296:Nat):Int)),?_,
     ⟨i+1,lm a i*2 ^ s / 4294967296,rfl,Z,kl B _ s2,by simpa using hn,s3,λ_=>Z,?_⟩,by simp; omega⟩
    ·unfold nP
     simp only[bN,lv ha,zA,Nat.zero_add,pC B,J,MO U (show s<=32 by omega),hlx,s1,i1 i (Z),Ft,e2]
     simp(disch:=omega) [wO,hn,JE,zhg]
    ·simp only
     rw[tB _ (Z),vi,zA,zE]
     exact FC hv rfl
  ·right
   have:i=a.length:=Z
   subst this
   refine⟨xs,?_,B,hn,?_⟩
   ·unfold nP
    simp
   ·rw[List.take_length]at hv
    by_cases q:n=a.length
    ·rw[hH (Z)]at hv
     rcases qC h with z | z
     ·grind
     ·have:=Y (4294967296 ^ a.length) z
      grind
    ·have kB:n=a.length+1:=Z
     have:=vi xs a.length
     rw[hH (Z),hli (Z),W]at this
     omega
 ·show lm (I n 0) 0=0
  unfold lm nth
  cases n<;>simp[qX]
theorem Dn(a:List Int)(ha:qy a)(la:a.length<=1000000000)(s n:Nat)(hs:s<32)(KP:a.length<=n)(D4:n<=a.length+1)(HF:nv a*2 ^ s<4294967296 ^ n) :
  ∃ r,(UO a (s:Int) (n:Int)).run=some r/\qy r/\r.length=n/\nv r=nv a*2 ^ s:=by
 obtain⟨r,h1,X,h3,h4⟩:=BD a ha la s n hs KP D4 HF
 refine⟨r,?_,X,h3,h4⟩
 unfold UO
 simp
 rw[T.run_mk _ (Z) (Z) (Z) (Z),bI _ rfl rfl rfl,xe rfl,zq h1]
 simp
theorem XB(a:List Int)(ha:qy a)(la:a.length<=1000000000)(s n:Nat)(hs:s<32)(KP:a.length<=n)(D4:n<=a.length+1)(HF:nv a*2 ^ s<4294967296 ^ n) :
  ∃ r,(sj a (s:Int) (n:Int)).run=some r/\qy r/\r.length=n/\nv r=nv a*2 ^ s:=by
 obtain⟨r,h1,X,h3,h4⟩:=BD a ha la s n hs KP D4 HF
 refine⟨r,?_,X,h3,h4⟩
 have Hk:(WX (s:Int) (n:Int) a (a.length:Int) (0,I n 0)).run=some r:=h1
 unfold sj
 simp
 rw[T.run_mk _ (Z) (Z) (Z) (Z),bI _ rfl rfl rfl,xe rfl,zq Hk]
 simp
theorem zm6{a b s:Nat}(hs:s<=32)(ha:a<2 ^ (32-s)):a ||| b*2 ^ (32-s)=a+b*2 ^ (32-s):=by rw[Nat.or_comm,My b a (32-s) ha,qH]
theorem fZ(s:Nat)(h:s<=32):(4294967296:Nat)=2 ^ (32-s)*2 ^ s:=by rw[<- qB,show 32-s+s=32 by omega]
theorem zmh{v s:Nat}(hs:s<=32):v*4294967296 / 2 ^ s=v*2 ^ (32-s):=by
 rw[fZ s hs,<- qK,Nat.mul_div_cancel _ (zU (Z))]
theorem zer{v s:Nat}(hs:s<=32):v*2 ^ (32-s) / 4294967296=v / 2 ^ s:=by
 rw[fZ s hs,W v,Nat.mul_div_mul_left _ _ (zU (Z))]
theorem zes{v s:Nat}(hs:s<=32):v*2 ^ (32-s) % 4294967296=(v % 2 ^ s)*2 ^ (32-s):=by
 rw[fZ s hs,W (2 ^ (32-s)),xJ]
theorem z9Y{hd v P s C:Nat}(hs:s<=32)(hC:C=hd / 2 ^ s):C+P*((v % 2 ^ s)*2 ^ (32-s))+P*4294967296*(v / 2 ^ s)=(hd+P*4294967296*v) / 2 ^ s:=by
 have hp:0<2 ^ s:=zU (Z)
 have e1:hd+P*4294967296*v=hd+(P*2 ^ (32-s)*v)*2 ^ s:=by
  have:P*4294967296*v=P*(2 ^ (32-s)*2 ^ s)*v:=by rw[<- fZ s hs]
  grind
 rw[e1,Nat.add_mul_div_right _ _ hp,hC]
 have e2:v=v % 2 ^ s+2 ^ s*(v / 2 ^ s):=by have:=qD v (2 ^ s); omega
 have e3:P*4294967296*(v / 2 ^ s)=P*(2 ^ (32-s)*2 ^ s)*(v / 2 ^ s):=by rw[<- fZ s hs]
 grind
theorem z4e(x:List Int)(U:qy x)(lx:x.length<=4000000000)(s:Nat)(hs:s<32) :
  ∃ r,(UL (s:Int) x (x.length:Int) (0,I x.length 0)).run=some r/\qy r/\r.length=x.length/\nv r=nv x / 2 ^ s:=by
 refine T.cR (λz:Int×List Int=>∃ i:Nat,z.1=(i:Int)/\i<=x.length/\qy z.2/\z.2.length=x.length/\(∀ j,i<=j->lm z.2 j=0)/\(∀ j,i=j+1->lm z.2 j=lm x j / 2 ^ s)/\nv (z.2.take i)=nv (x.take i) / 2 ^ s)
  (λz=>x.length-z.1.toNat) _ ?_ ⟨0,rfl,Z,vT _,qu,λj _ => ?_,λj h=>Z,qu⟩
 ·rintro⟨_,xs⟩ ⟨i,rfl,hi,B,hn,hz,hp,hv⟩
  simp only at B hn hz hp hv ⊢
  by_cases wO:i<x.length
  ·left
   have IV:=lZ U i
   have J:wm (lm x i:Int)=lm x i:=mb (Z)
   have h32:(32:Int)=((32:Nat):Int):=rfl
   have w1:jx .u64 (Zx .u64 (lm x i:Int) 32) (s:Int)=((lm x i*2 ^ (32-s):Nat):Int):=by
    rw[h32,MO IV (Z),zeq (Z),<- zmh (Z)]
   have hq:lm x i / 2 ^ s<4294967296:=zF (qM _ _) IV
   have w2:ba (jx .u64 ((lm x i*2 ^ (32-s):Nat):Int) 32)=((lm x i / 2 ^ s:Nat):Int):=by rw[Ft,zer (Z),KF hq]
   have w3:HU .u32 (wo xs i 0) ((lm x i / 2 ^ s:Nat):Int)=((lm x i / 2 ^ s:Nat):Int):=by
    rw[pC B,hz i (zP _),Yi (Z) hq,Nat.zero_or]
   cases i with
   | zero =>
    refine⟨(1,xs.set 0 ((lm x 0 / 2 ^ s:Nat):Int)),?_,⟨1,rfl,Z,kl B _ hq,by simpa using hn,λj h => ?_,λj h => ?_,?_⟩,by simp; omega⟩
    ·have w3':=w3
     simp only[Int.natCast_zero]at *
     have Yc:nth x 0 0=(lm x 0:Int):=lv U 0
     unfold lh
     simp only[bN,Yc,zA,Nat.zero_add,J,w1,w2,w3]
     have zqT:HU .u32 (wo xs (Int.toNat 0) 0) ((lm x 0 / 2 ^ s:Nat):Int)=((lm x 0 / 2 ^ s:Nat):Int):=w3
     generalize lm x 0 / 2 ^ s=q at *
     simp only[zqT]
     simp(disch:=omega) [wO,hn]
    ·rw[mL _ _ _ _ (Z)]; exact hz j (Z)
    ·have:j=0:=Z
     subst this
     rw[JL (Z),if_pos rfl,zA]
    ·simp only
     rw[tB _ (Z),vi]; simp only[zA,List.take_zero,z3q,Nat.pow_zero,Nat.one_mul,Nat.zero_add]
   | succ i =>
    have Ed:=hp i rfl
    have zpa:=lZ U i
    have hq2:lm xs i<2 ^ (32-s):=by
     rw[Ed,zL (zU (Z)),<- fZ s (Z)]; exact zpa
    have hq3:lm x (i+1)*2 ^ (32-s) % 4294967296=(lm x (i+1) % 2 ^ s)*2 ^ (32-s):=zes (Z)
    have hq4:lm xs i+(lm x (i+1) % 2 ^ s)*2 ^ (32-s)<4294967296:=by
     have h1:lm x (i+1) % 2 ^ s+1<=2 ^ s:=zX _ (zU (Z))
     have X:=Y (2 ^ (32-s)) h1
     rw[W (2 ^ s),<- fZ s (Z),Nat.add_mul]at X
     omega
    have hxi:=lZ B i
    have w4:∀ ys:List Int,qy ys->lm ys i=lm xs i->HU .u32 (wo ys i 0) (ba ((lm x (i+1)*2 ^ (32-s):Nat):Int))=((lm xs i+(lm x (i+1) % 2 ^ s)*2 ^ (32-s):Nat):Int):=by
     intro ys hys he
     rw[pC hys,he,z27,Yi hxi (zX _ (Z)),hq3,zm6 (Z) hq2]
    have w5:=w4 _ (kl B (i+1) hq) (mL _ _ _ _ (Z))
    refine⟨(((i+1+1:Nat):Int),(xs.set (i+1) ((lm x (i+1) / 2 ^ s:Nat):Int)).set i ((lm xs i+(lm x (i+1) % 2 ^ s)*2 ^ (32-s):Nat):Int)),?_,
     ⟨i+1+1,rfl,Z,kl (kl B _ hq) _ hq4,by simpa using hn,λj h => ?_,λj h => ?_,?_⟩,by simp; omega⟩
    ·unfold lh
     simp only[bN,lv U,zA,Nat.zero_add,J,w1,w2,w3,i1 (i+1) (Z),im1 i (Z),w5]
     rw[vM (by simp; omega)]
     have WN:decide ((0:Int)<((i+1:Nat):Int))=true:=qu
     generalize hG:(xs.set (i+1) ((lm x (i+1) / 2 ^ s:Nat):Int)).set i ((lm xs i+(lm x (i+1) % 2 ^ s)*2 ^ (32-s):Nat):Int)=G
     have hGl:G.length=xs.length:=by rw[<- hG]; simp
     rw[vF _ (Z) (Z),lI _ (Z),lI _ (Z),vF _ (Z) (Z),ij _ rfl (Z),lI _ (Z),vF _ (Z) (Z),ij _ rfl (Z),vM WN,
      vF _ (Z) (Z),ij _ (qu) (by simp; omega),vF _ (Z) (Z),ij _ (qu) (by simp; omega),bI _ (Z) rfl (Z),gA _ (Z),xz]
    ·rw[mL _ _ _ _ (Z),mL _ _ _ _ (Z)]; exact hz j (Z)
    ·have:j=i+1:=Z
     subst this
     rw[mL _ _ _ _ (Z),JL (Z),if_pos rfl,zA]
    ·simp only
     rw[vi,mL _ _ _ _ (Z),JL (Z),if_pos rfl,zA,tB _ (by simp; omega),Kz _ _ _ _ (Z),zA,vi,zE]
     have Hn:=hv
     rw[vi]at Hn
     have e:nv (xs.take i)+4294967296 ^ i*(lm xs i+lm x (i+1) % 2 ^ s*2 ^ (32-s))=(nv (xs.take i)+4294967296 ^ i*lm xs i)+4294967296 ^ i*(lm x (i+1) % 2 ^ s*2 ^ (32-s)):=by rw[qP]; omega
     rw[e]
     exact z9Y (Z) Hn
  ·right
   have:i=x.length:=Z
   subst this
   refine⟨xs,?_,B,hn,?_⟩
   ·unfold lh
    simp
   ·grind
 ·show lm (I x.length 0) j=0
  unfold lm nth
  grind
theorem z7D{A k:Nat}(h:(vU A).length<=k):A<4294967296 ^ k:=uL.1 h
theorem z3U(k:Nat):(4294967296:Nat) ^ (k / 32)*2 ^ (k % 32)=2 ^ k:=by
 have:(4294967296:Nat)=2 ^ 32:=qj
 rw[this,<- Nat.pow_mul,<- qB]; congr 1; omega
theorem Hr(a:List Int)(ha:qy a)(la:a.length<=1000000000)(k:Nat)(hk:k<=4096)(h0:0<k):(mK a (-(k:Int))).run=some (vU (nv a / 2 ^ k)):=by
 have qa:=vQ ha
 unfold mK
 rw[zq (cf a ha (Z))]
 generalize nv a=A at *
 have e1:Vs (lU (-(k:Int)) (-4096)) 4096 = -(k:Int):=by unfold Vs lU; repeat' split<;>omega
 have e2:ql (0 - -(k:Int))=(k:Int):=by rw[qv (Z) (Z)]; omega
 have e3:ql (xK (k:Int) 32)=((k / 32:Nat):Int):=by rw[XV (Z),qv (Z) (Z)]; omega
 have e4:wm (xL (k:Int) 32)=((k % 32:Nat):Int):=by rw[XW (Z),bf (Z) (Z)]; omega
 simp only[e1,e2,e3,e4]
 rw[vM (wa),tH _ (Z)]
 have U:=wM A
 by_cases c:(vU A).length<=k / 32
 ·rw[vM (by simp; omega),xz]
  have h1:=z7D c
  have X:=z3U k
  have h3:4294967296 ^ (k / 32)<=2 ^ k:=by rw[<- X]; exact Nat.le_mul_of_pos_right _ (zU (Z))
  rw[qJ (Z),hJ]
 ·rw[je (by simp; omega),tH _ (Z)]
  have e5:ql (((vU A).length:Int)-((k / 32:Nat):Int))=(((vU A).length-k / 32:Nat):Int):=by rw[qv (Z) (Z)]; omega
  have e6:jS (e:=.int .u32) ((k / 32:Nat):Int) ((vU A).length:Int) (vU A)=(vU A).drop (k / 32):=by unfold jS; simp only[zA,List.take_length]
  obtain⟨r,g1,g2,g3,g4⟩:=z4e ((vU A).drop (k / 32)) (sb U _) (by simp; omega) (k % 32) (zX _ (Z))
  have hlen:((vU A).drop (k / 32)).length=(vU A).length-k / 32:=List.length_drop
  rw[hlen]at g1
  simp only[e5,e6,zA,zY,hlen]
  rw[T.run_mk _ (Z) (Z) (Z) (Z),XN _ (Z) (Z) (Z),bI _ rfl rfl rfl,xe rfl,zq g1]
  simp only[Nat.zero_add,qG,List.take_length]
  rw[xe rfl,zq (cf r g2 (Z)),xz,g4]
  have h1:=nR (vU A) (k / 32) (Z)
  rw[ju]at h1
  have X:=cG U (k / 32)
  have h3:A / 4294967296 ^ (k / 32)=nv ((vU A).drop (k / 32)):=by
   refine(congrArg (· / 4294967296 ^ (k / 32)) h1).trans ?_
   rw[Nat.add_mul_div_left _ _ (Ig _),qJ X,Nat.zero_add]
  rw[<- h3,qT,z3U]
theorem DA(k:Nat)(l:List Int):nv (I k 0++l)=4294967296 ^ k*nv l:=by rw[pT]; simp
theorem Hs(a:List Int)(ha:qy a)(la:a.length<=1000000000)(k:Nat)(hk:k<=4096):(mK a (k:Int)).run=some (vU (nv a*2 ^ k)):=by
 have qa:=vQ ha
 unfold mK
 rw[zq (cf a ha (Z))]
 generalize nv a=A at *
 have e1:Vs (lU (k:Int) (-4096)) 4096=(k:Int):=by unfold Vs lU; repeat' split<;>omega
 have e3:ql (xK (k:Int) 32)=((k / 32:Nat):Int):=by rw[XV (Z),qv (Z) (Z)]; omega
 have e4:wm (xL (k:Int) 32)=((k % 32:Nat):Int):=by rw[XW (Z),bf (Z) (Z)]; omega
 have U:=wM A
 have e5:ql ((vU A).length+1:Int)=(((vU A).length+1:Nat):Int):=i1 _ (Z)
 have e6:ql (ql (((k / 32:Nat):Int)+(vU A).length)+1)=((k / 32+(vU A).length+1:Nat):Int):=by rw[qv (x:=((k / 32:Nat):Int)+(vU A).length) (Z) (Z),qv (Z) (Z)]; omega
 have HF:nv (vU A)*2 ^ (k % 32)<4294967296 ^ ((vU A).length+1):=by
  have h1:=GA U
  have X:2 ^ (k % 32)<=2 ^ 32:=zZ (Z) (Z)
  exact xB h1 X (Z)
 obtain⟨r,g1,g2,g3,g4⟩:=Dn (vU A) U (Z) (k % 32) ((vU A).length+1) (zX _ (Z)) (Z) (Z) HF
 simp only[e1,e3,e4,e5,e6]
 rw[je (qu),tH _ (Z),T.run_mk _ (Z) (Z) (Z) (Z),XN _ (Z) (by simp; omega) (qu),tH _ (Z),zq g1]
 simp only[zA,Nat.zero_add,zY,qG]
 rw[z9V _ rfl (Z),GX]
 have ec:((yL (k / 32) (k / 32+(vU A).length+1-k / 32) (I (k / 32+(vU A).length+1) (0:Int)) r))=I (k / 32) 0++r:=by
  unfold yL
  rw[List.take_replicate,List.drop_replicate,zK (Z)]
  rw[show k / 32+(vU A).length+1-(k / 32+min (k / 32+(vU A).length+1-k / 32) r.length)=0 by omega]
  grind
 rw[ec,zK (by simp; omega)]
 rw[zq (cf _ (UD.2 ⟨vT _,g2⟩) (by simp; omega)),xz,DA,g4,ju]
 rw[<- z3U k]; grind
theorem Sy{u2 u1 u0 v1 v2:Nat}(X:u2<4294967296)(h1:u1<4294967296)(h0:u0<4294967296)(hv1:v1<4294967296)(Hn:v2<4294967296)(hn:2147483648<=v1)
  (ht:u2*18446744073709551616+u1*4294967296+u0<(v1*4294967296+v2+1)*4294967296) :
  (pR (u2:Int) (u1:Int) (u0:Int) (v1:Int) (v2:Int)).run=some ((min ((u2*18446744073709551616+u1*4294967296+u0) / (v1*4294967296+v2)) 4294967295:Nat):Int):=by
 obtain⟨t1,t2⟩:=Sz hn Hn ht
 have ti:=LM (u2:=u2) (u1:=u1) (u0:=u0) (v1:=v1) (v2:=v2) (Z) h0
 obtain⟨Q,hQ⟩:∃ Q,(u2*18446744073709551616+u1*4294967296+u0) / (v1*4294967296+v2)=Q:=⟨_,rfl⟩
 rw[hQ]at ti ⊢
 have hV:0<v1*4294967296+v2:=Z
 have e1:=z1A (x:=(u2:Int)) (y:=(u1:Int)) (Z) (Z) (Z) (Z)
 have e2:(u2:Int)*4294967296+(u1:Int)=((u2*4294967296+u1:Nat):Int):=Z
 have w1:wm (u1:Int)=u1:=mb (Z)
 have w2:wm (u2:Int)=u2:=mb (Z)
 have w0:wm (u0:Int)=u0:=mb (Z)
 have x1:wm (v1:Int)=v1:=mb (Z)
 have x2:wm (v2:Int)=v2:=mb (Z)
 have e3:xK ((u2*4294967296+u1:Nat):Int) (v1:Int)=(((u2*4294967296+u1) / v1:Nat):Int):=by rw[XV (Z)]; rfl
 have e4:xL ((u2*4294967296+u1:Nat):Int) (v1:Int)=(((u2*4294967296+u1) % v1:Nat):Int):=by rw[XW (Z)]; rfl
 have hm:(u2*4294967296+u1) % v1<v1:=zX _ (Z)
 have hdm:=qD (u2*4294967296+u1) v1
 rw[W]at hdm
 have loop:∃ r:Int,(UN (u0:Int) (v1:Int) (v2:Int) ((((u2*4294967296+u1) / v1:Nat):Int),(((u2*4294967296+u1) % v1:Nat):Int))).run=some r/\r=((min Q 4294967295:Nat):Int):=by
  refine T.cR (λs:Int×Int=>∃ q r:Nat,s.1=(q:Int)/\s.2=(r:Int)/\q<=4294967297/\r<4294967296/\q*v1+r=u2*4294967296+u1/\min Q 4294967295<=q)
   (λs=>s.1.toNat) _ ?_ ⟨_,_,rfl,rfl,t2,Z,hdm,Z⟩
  rintro⟨_,_⟩ ⟨q,r,rfl,rfl,hq,hr,hqr,zcU⟩
  have e5:=z1A (x:=(r:Int)) (y:=(u0:Int)) (Z) (Z) (Z) (Z)
  have es:jx .u64 (q:Int) 32=((q / 4294967296:Nat):Int):=Ft q
  by_cases hbig:4294967296<=q\/r*4294967296+u0<q*v2
  ·-- too many
   have hgt:min Q 4294967295<q:=by
    rcases hbig with h | h
    ·omega
    ·have:=z14 hV (z13 (u2:=u2) (u1:=u1) (u0:=u0) (v1:=v1) (v2:=v2) hqr h)
     omega
   have ec:((jx .u64 (q:Int) 32 != 0)||decide (HU .u64 (Zx .u64 (r:Int) 32) (u0:Int)<wm ((q:Int)*(v2:Int))))=true:=by
    rw[es,e5]
    by_cases h:4294967296<=q
    ·grind
    ·have hh:r*4294967296+u0<q*v2:=hbig.resolve_left h
     have hm2:=JP (x:=q) (y:=v2) (Nat.lt_of_not_le h) Hn
     have e6:(q:Int)*(v2:Int)=((q*v2:Nat):Int):=qu
     rw[e6,mb (zF hm2 (qj))]
     grind
   have eq1:wm ((q:Int)-1)=((q-1:Nat):Int):=by rw[bf (Z) (Z)]; omega
   have er1:wm ((r:Int)+(v1:Int))=((r+v1:Nat):Int):=by rw[bf (Z) (Z)]; omega
   have hq1:(q-1)*v1+(r+v1)=u2*4294967296+u1:=by
    obtain⟨p,rfl⟩:∃ p,q=p+1:=⟨q-1,Z⟩
    grind
   by_cases hover:4294967296<=r+v1
   ·right
    refine⟨((q-1:Nat):Int),?_,?_⟩
    ·unfold ll
     simp only[w0,x1,x2,eq1,er1]
     rw[xe ⟨Z,λ_=>Z⟩,vM ec,lI _ (Z),vM (by rw[Ft]; simp; omega),xz]
    ·-- what is left cannot be more
     have hq2:q-1<=Q:=by
      rw[<- hQ,zM hV]
      refine Fg (u0:=u0) hq1 ?_
      have h3:q-1<=4294967295:=by
       grind
      have h4:(q-1)*v2<=4294967295*4294967295:=xA h3 (Z)
      grind
     have h5:q-1<=4294967295:=by
      grind
     omega
   ·left
    refine⟨(((q-1:Nat):Int),((r+v1:Nat):Int)),?_,⟨q-1,r+v1,rfl,rfl,Z,Z,hq1,Z⟩,by simp; omega⟩
    unfold ll
    simp only[w0,x1,x2,eq1,er1]
    rw[xe ⟨Z,λ_=>Z⟩,vM ec,lI _ (Z),je (by rw[Ft]; simp; omega),xz]
  ·right
   have hm2:=JP (x:=q) (y:=v2) (Z) Hn
   have e6:(q:Int)*(v2:Int)=((q*v2:Nat):Int):=qu
   have ec:((jx .u64 (q:Int) 32 != 0)||decide (HU .u64 (Zx .u64 (r:Int) 32) (u0:Int)<wm ((q:Int)*(v2:Int))))=false:=by
    have hz:q / 4294967296=0:=Z
    rw[es,e5,e6,mb (zF hm2 (qj)),hz]
    have hh:¬ (r*4294967296+u0<q*v2):=Z
    generalize q*v2=z at *
    rw[show decide ((r:Int)*4294967296+(u0:Int)<(z:Int))=false from decide_eq_false (Z)]; rfl
   refine⟨(q:Int),?_,?_⟩
   ·unfold ll
    simp only[w0,x1,x2]
    rw[xe ⟨Z,λ_=>Z⟩,je ec,xz]
   ·have hq2:q<=Q:=by
     rw[<- hQ,zM hV]
     exact Fg hqr (Z)
    omega
 obtain⟨r,hr,rfl⟩:=loop
 unfold pR
 have e7:wm (((u2*4294967296+u1) / v1:Nat):Int)=(((u2*4294967296+u1) / v1:Nat):Int):=mb (Z)
 simp only[w1,w2,x1,e1,e2,e3,e4,e7]
 rw[lI _ (Z),tH _ (Z),tH _ (Z),zq hr,xz]
theorem Cc{x y b:Nat}(U:x<4294967296)(hy:y<4294967296)(J:b<=1) :
  (yj (x:Int) (y:Int) (b:Int)).run=some ((((x+4294967296*(if x<y+b then 1 else 0))-(y+b):Nat):Int),((if x<y+b then 1 else 0:Nat):Int)):=by
 have e1:=zmj U hy J
 have e2:=z0s U hy J rfl
 unfold yj
 rw[lI _ (Z),e1,e2,xz]
 grind
theorem S4{x y b:Nat}(U:x<4294967296)(hy:y<4294967296)(J:b<=1) :
  (fk (x:Int) (y:Int) (b:Int)).run=some ((((x+y+b) % 4294967296:Nat):Int),(((x+y+b) / 4294967296:Nat):Int)):=by
 have e:wm (wm ((x:Int)+(y:Int))+(b:Int))=((x+y+b:Nat):Int):=by rw[bf (x:=(x:Int)+y) (Z) (Z),bf (Z) (Z)]; omega
 unfold fk
 rw[lI _ (Z),mb (Z),mb (Z),mb (Z),e,Ft,z27,KF (Z),xz]
theorem fR(xs:List Int)(o i:Nat)(x:Int):(xs.set (o+i) x).drop o=(xs.drop o).set i x:=by
 rw[List.drop_set,if_neg (Z)]; congr 1; omega
theorem sc(xs:List Int)(o i:Nat):lm (xs.drop o) i=lm xs (o+i):=by
 unfold lm nth
 grind
theorem z4q{h2 X' P N c bo q v w lo hi d zB k:Nat}(h:h2+q*N=zB+(bo+c)*P)(hs:X'+P*w=h2+P*d)(hc:c+q*v=lo+4294967296*hi)(V:d+(lo+bo)=w+4294967296*k) :
  X'+q*(N+P*v)=zB+(k+hi)*(P*4294967296):=wa
theorem zm9{c q v:Nat}(hc:c<4294967296)(hq:q<4294967296)(hv:v<4294967296):wm ((c:Int)+wm ((q:Int)*(v:Int)))=((c+q*v:Nat):Int)/\(c+q*v) / 4294967296<4294967296:=by
 have h:=JP hq hv
 have e:(q:Int)*(v:Int)=((q*v:Nat):Int):=qu
 rw[e]
 generalize q*v=z at *
 rw[bf (x:=(z:Int)) (Z) (Z),bf (Z) (Z)]
 omega
theorem zez(b:List Int)(J:qy b)(lb:b.length<=1000000000)(q:Nat)(hq:q<4294967296)(u:List Int)(hu:qy u)(o:Nat)(ho:o+b.length<u.length) :
  ∃ r:(Nat×Nat)×Int×Int×List Int,(XC b (q:Int) b (b.length:Int) ((o,b.length+1),0,0,0,u)).run=some r/\r.1=(o,b.length+1)/\∃ c bo:Nat,r.2.1=(c:Int)/\r.2.2.1=(bo:Int)/\c<4294967296/\bo<=1/\qy r.2.2.2 /\
   r.2.2.2.length=u.length/\r.2.2.2.take o=u.take o/\(r.2.2.2.drop o).drop b.length=(u.drop o).drop b.length/\nv (r.2.2.2.drop o)+q*nv b=nv (u.drop o)+(bo+c)*4294967296 ^ b.length:=by
 refine T.cR (λs:(Nat×Nat)×Int×Int×Int×List Int=>s.1=(o,b.length+1)/\∃ c bo i:Nat,s.2.1=(c:Int)/\s.2.2.1=(bo:Int)/\s.2.2.2.1=(i:Int)/\c<4294967296/\bo<=1/\i<=b.length/\qy s.2.2.2.2 /\
   s.2.2.2.2.length=u.length/\s.2.2.2.2.take o=u.take o/\(s.2.2.2.2.drop o).drop i=(u.drop o).drop i/\nv (s.2.2.2.2.drop o)+q*nv (b.take i)=nv (u.drop o)+(bo+c)*4294967296 ^ i)
  (λs=>b.length-s.2.2.2.1.toNat) _ ?_ ⟨rfl,0,0,0,rfl,rfl,rfl,Z,Z,Z,hu,rfl,rfl,rfl,qu⟩
 rintro⟨_,_,_,_,xs⟩ ⟨rfl,c,bo,i,rfl,rfl,rfl,hc,hbo,hi,B,hn,ht,V,hv⟩
 simp only at B hn ht V hv ⊢
 by_cases wO:i<b.length
 ·left
  have hw:=lZ J i
  have U:=lZ B (o+i)
  obtain⟨m1,m2⟩:=zm9 hc hq hw
  have hs:=Cc U (show(c+q*lm b i) % 4294967296<4294967296 by omega) hbo
  have Fm:lm xs (o+i)+4294967296*(if lm xs (o+i)<(c+q*lm b i) % 4294967296+bo then 1 else 0)-((c+q*lm b i) % 4294967296+bo)<4294967296:=by split<;>omega
  have TT:(if lm xs (o+i)<(c+q*lm b i) % 4294967296+bo then 1 else 0)<=1:=by split<;>omega
  have hde:lm xs (o+i)+4294967296*(if lm xs (o+i)<(c+q*lm b i) % 4294967296+bo then 1 else 0)-((c+q*lm b i) % 4294967296+bo)+((c+q*lm b i) % 4294967296+bo)=lm xs (o+i)+4294967296*(if lm xs (o+i)<(c+q*lm b i) % 4294967296+bo then 1 else 0):=by split<;>omega
  generalize hD:lm xs (o+i)+4294967296*(if lm xs (o+i)<(c+q*lm b i) % 4294967296+bo then 1 else 0)-((c+q*lm b i) % 4294967296+bo)=D at *
  generalize hB:(if lm xs (o+i)<(c+q*lm b i) % 4294967296+bo then 1 else 0)=B2 at *
  refine⟨((o,b.length+1),((((c+q*lm b i) / 4294967296:Nat)):Int),(B2:Int),((i+1:Nat):Int),xs.set (o+i) (D:Int)),?_,
   ⟨rfl,(c+q*lm b i) / 4294967296,B2,i+1,rfl,rfl,rfl,m2,TT,Z,kl B _ Fm,by simpa using hn,?_,?_,?_⟩,by simp; omega⟩
  ·unfold lq
   have ew:wm (lm b i:Int)=lm b i:=mb (Z)
   simp only[bN,lv J,zA,pC B,ew,m1,z27,Ft,i1 i (Z)]
   rw[vM (by simp; omega),vF _ (Z) (Z),vF _ (Z) (Z),ij _ rfl (Z),zq hs]
   simp only
   rw[vF _ (Z) (Z),ij _ rfl (Z),lI _ (Z),xe rfl,gA _ (qu),xz]
  ·simp only
   rw[zT (Z),ht]
  ·simp only
   rw[fR,cT]
   have:=congrArg (xO 1) V
   rw[qF,qF,]at this
   simpa[xF,qH]using this
  ·simp only
   rw[fR,vi,zE]
   have ov:=Dy (a:=xs.drop o) (i:=i) (D:Int) (by simp; omega)
   rw[zA,sc]at ov
   exact z4q (lo:=(c+q*lm b i) % 4294967296) hv ov (by generalize c+q*lm b i=z; omega) hde
 ·right
  have:i=b.length:=Z
  subst this
  refine⟨((o,b.length+1),(c:Int),(bo:Int),xs),?_,rfl,c,bo,rfl,rfl,hc,hbo,B,hn,ht,V,by simpa[List.take_length]using hv⟩
  unfold lq
  simp
theorem z0l{h2 X' P N m v w d hi zB:Nat}(h:h2+m*P=zB+N)(hs:X'+P*w=h2+P*d)(V:d+4294967296*hi=w+v+m):X'+hi*(P*4294967296)=zB+(N+P*v):=wa
theorem zeA(b:List Int)(J:qy b)(lb:b.length<=1000000000)(u:List Int)(hu:qy u)(o:Nat)(ho:o+b.length<u.length) :
  ∃ r:(Nat×Nat)×Int×List Int,(XD b b (b.length:Int) ((o,b.length+1),0,0,u)).run=some r/\r.1=(o,b.length+1)/\∃ m:Nat,r.2.1=(m:Int)/\m<=1/\qy r.2.2 /\
   r.2.2.length=u.length/\r.2.2.take o=u.take o/\(r.2.2.drop o).drop b.length=(u.drop o).drop b.length/\nv (r.2.2.drop o)+m*4294967296 ^ b.length=nv (u.drop o)+nv b:=by
 refine T.cR (λs:(Nat×Nat)×Int×Int×List Int=>s.1=(o,b.length+1)/\∃ m i:Nat,s.2.1=(m:Int)/\s.2.2.1=(i:Int)/\m<=1/\i<=b.length/\qy s.2.2.2 /\
   s.2.2.2.length=u.length/\s.2.2.2.take o=u.take o/\(s.2.2.2.drop o).drop i=(u.drop o).drop i/\nv (s.2.2.2.drop o)+m*4294967296 ^ i=nv (u.drop o)+nv (b.take i))
  (λs=>b.length-s.2.2.1.toNat) _ ?_ ⟨rfl,0,0,rfl,rfl,Z,Z,hu,rfl,rfl,rfl,qu⟩
 rintro⟨_,_,_,xs⟩ ⟨rfl,m,i,rfl,rfl,hm,hi,B,hn,ht,V,hv⟩
 simp only at B hn ht V hv ⊢
 by_cases wO:i<b.length
 ·left
  have hw:=lZ J i
  have U:=lZ B (o+i)
  have hs:=S4 U hw hm
  refine⟨((o,b.length+1),(((lm xs (o+i)+lm b i+m) / 4294967296:Nat):Int),((i+1:Nat):Int),xs.set (o+i) (((lm xs (o+i)+lm b i+m) % 4294967296:Nat):Int)),?_,
   ⟨rfl,_,i+1,rfl,rfl,Z,Z,kl B _ (Z),by simpa using hn,?_,?_,?_⟩,by simp; omega⟩
  ·unfold lr
   simp only[bN,lv J,zA,pC B,i1 i (Z)]
   rw[vM (by simp; omega),vF _ (Z) (Z),vF _ (Z) (Z),ij _ rfl (Z),zq hs]
   simp only
   rw[vF _ (Z) (Z),ij _ rfl (Z),xe rfl,gA _ (qu),xz]
  ·simp only
   rw[zT (Z),ht]
  ·simp only
   rw[fR,cT]
   have:=congrArg (xO 1) V
   simpa[xF,qH]using this
  ·simp only
   rw[fR,vi,zE]
   have ov:=Dy (a:=xs.drop o) (i:=i) (((lm xs (o+i)+lm b i+m) % 4294967296:Nat):Int) (by simp; omega)
   rw[zA,sc]at ov
   exact z0l hv ov (Z)
 ·right
  have:i=b.length:=Z
  subst this
  refine⟨((o,b.length+1),(m:Int),xs),?_,rfl,m,rfl,hm,B,hn,ht,V,by simpa[List.take_length]using hv⟩
  unfold lr
  simp
theorem XF{D:List Int}(B:qy D)(k:Nat)(hk:k<=D.length)(h:nv D<4294967296 ^ k):nv (D.drop k)=0:=by
 have h1:=nR D k hk
 rcases qC (nv (D.drop k))with z | z
 ·exact z
 ·have:=zI (4294967296 ^ k) z
  omega
theorem US{D:List Int}(B:qy D)(k:Nat)(hk:k<=D.length)(h:nv (D.drop k)=0):nv D<4294967296 ^ k:=by
 have h1:=nR D k hk
 have X:=cG B k
 grind
theorem z1W{h2 X' P q N c bo w d zB k:Nat}(h:h2+q*N=zB+(bo+c)*P)(hs:X'+P*w=h2+P*d)(V:d+(c+bo)=w+4294967296*k):X'+q*N=zB+k*(P*4294967296):=wa
theorem z0n{z6 zB h2 hx P L m p N:Nat}(h1:z6+P*L=zB+P*((L+m) % 4294967296))(X:zB+m*P=h2+N)(h3:h2+(p+1)*N=hx+1*(P*4294967296))(h4:z6<P*4294967296)(h5:(p+1)*N<=hx+N)
  (hm:m<=1) (hL:L<4294967296):z6+(p+1-1)*N=hx:=by
 by_cases hov:L+m<4294967296
 ·rw[qV hov,qP]at h1
  grind
 ·have zu9:(L+m) % 4294967296=0:=Z
  grind
theorem TJ(b:List Int)(J:qy b)(lb:b.length<=1000000000)(q:Nat)(hq:q<4294967296)(u:List Int)(hu:qy u)(lu:u.length<=4000000000)(o:Nat)(ho:o+b.length<u.length)
  (HF:nv (u.drop o)<4294967296 ^ (b.length+1)) (zhs:q*nv b<=nv (u.drop o)+nv b) :
  ∃ xs:List Int,(tz (o,b.length+1) b (q:Int) u).run=some (decide (nv (u.drop o)<q*nv b),xs)/\qy xs/\xs.length=u.length/\xs.take o=u.take o /\
   nv (xs.drop o)+(if nv (u.drop o)<q*nv b then q-1 else q)*nv b=nv (u.drop o):=by
 obtain⟨⟨_,_,_,xs⟩,hr,rfl,c,bo,rfl,rfl,hc,hbo,B,hn,ht,V,hv⟩:=zez b J lb q hq u hu o ho
 simp only at B hn ht V hv
 have hBl:=GA J
 have U:=lZ B (o+b.length)
 have hs:=Cc U hc hbo
 have Fm:lm xs (o+b.length)+4294967296*(if lm xs (o+b.length)<c+bo then 1 else 0)-(c+bo)<4294967296:=by split<;>omega
 have TT:(if lm xs (o+b.length)<c+bo then 1 else 0)<=1:=by split<;>omega
 have hde:lm xs (o+b.length)+4294967296*(if lm xs (o+b.length)<c+bo then 1 else 0)-(c+bo)+(c+bo)=lm xs (o+b.length)+4294967296*(if lm xs (o+b.length)<c+bo then 1 else 0):=by split<;>omega
 generalize lm xs (o+b.length)+4294967296*(if lm xs (o+b.length)<c+bo then 1 else 0)-(c+bo)=D at *
 generalize (if lm xs (o+b.length)<c+bo then 1 else 0)=B2 at *
 have ov:=Dy (a:=xs.drop o) (i:=b.length) (D:Int) (by simp; omega)
 rw[zA,sc,<- fR]at ov
 have z1y:=z1W hv ov hde
 have hl1:qy (xs.set (o+b.length) (D:Int)):=kl B _ Fm
 have KP:(xs.set (o+b.length) (D:Int)).length=u.length:=by simpa using hn
 have ht1:(xs.set (o+b.length) (D:Int)).take o=u.take o:=by rw[zT (Z),ht]
 have hd1:((xs.set (o+b.length) (D:Int)).drop o).drop (b.length+1)=(u.drop o).drop (b.length+1):=by
  rw[fR,cT]
  have:=congrArg (xO 1) V
  rw[qF,qF]at this
  simpa[xF,qH]using this
 have hz:=XF (sb hu o) (b.length+1) (by simp; omega) HF
 have z1E:nv ((xs.set (o+b.length) (D:Int)).drop o)<4294967296 ^ (b.length+1):=US (sb hl1 o) _ (by simp; omega) (by rw[hd1]; exact hz)
 have zno:(4294967296:Nat) ^ (b.length+1)=4294967296 ^ b.length*4294967296:=zE ..
 have ec:ba (c:Int)=c:=KF hc
 unfold tz
 rw[gA _ rfl,gA _ rfl,zq hr]
 simp only[zA,bN,pC B,ec]
 rw[vF _ (Z) (Z),ij _ rfl (Z),zq hs]
 simp only
 rw[vF _ (Z) (Z),ij _ rfl (Z)]
 generalize hX:xs.set (o+b.length) (D:Int)=h2 at *
 rcases qC B2 with z | z
 ·subst z
  rw[vM (qu),gA _ (Z),xz]
  grind
 ·have hB2:B2=1:=Z
  subst hB2
  have wO:nv (u.drop o)<q*nv b:=Z
  obtain⟨⟨_,_,ys⟩,hr2,rfl,m,rfl,hm,Q7,D4,SK,hd2,Hn⟩:=zeA b J lb h2 hl1 o (Z)
  simp only at Q7 D4 SK hd2 Hn
  have hy:=lZ Q7 (o+b.length)
  have eu:ba ((lm ys (o+b.length):Int)+(m:Int))=(((lm ys (o+b.length)+m) % 4294967296:Nat):Int):=by rw[<- z27]; rfl
  rw[je (qu),xe rfl,gA _ (Z),zq hr2]
  simp only[zA,bN,pC Q7,eu]
  rw[vF _ (Z) (Z),ij _ rfl (Z),vF _ (Z) (Z),ij _ rfl (Z),gA _ (qu),xz]
  have zaZ:=Dy (a:=ys.drop o) (i:=b.length) (((lm ys (o+b.length)+m) % 4294967296:Nat):Int) (by simp; omega)
  rw[zA,sc,<- fR]at zaZ
  have hl3:qy (ys.set (o+b.length) (((lm ys (o+b.length)+m) % 4294967296:Nat):Int)):=kl Q7 _ (Z)
  have hd3:((ys.set (o+b.length) (((lm ys (o+b.length)+m) % 4294967296:Nat):Int)).drop o).drop (b.length+1)=(u.drop o).drop (b.length+1):=by
   rw[fR,cT,<- hd1]
   have:=congrArg (xO 1) hd2
   rw[qF,qF]at this
   simpa[xF,qH]using this
  have zho:nv ((ys.set (o+b.length) (((lm ys (o+b.length)+m) % 4294967296:Nat):Int)).drop o)<4294967296 ^ (b.length+1):=US (sb hl3 o) _ (by simp; omega) (by rw[hd3]; exact hz)
  refine⟨_,by rw[decide_eq_true wO],hl3,by simp; omega,?_,?_⟩
  ·rw[zT (Z),SK,ht1]
  ·rw[if_pos wO]
   generalize nv ((ys.set (o+b.length) (((lm ys (o+b.length)+m) % 4294967296:Nat):Int)).drop o)=z6 at *
   obtain⟨p,rfl⟩:∃ p,q=p+1:=⟨q-1,by
    rcases qC q with h | h
    ·subst h; omega
    ·omega⟩
   rw[zno]at zho
   exact z0n zaZ Hn z1y zho zhs hm hy
def Q9:zo:=[0,1,2,2,3,3,3,3,4,4,4,4,4,4,4,4]++I 16 5++I 32 6++I 64 7++I 128 8
theorem SY:∀ y:Fin 256,y.val≠0->1<=(Q9.getD y.val 0).toNat/\(Q9.getD y.val 0).toNat<=8/\2 ^ ((Q9.getD y.val 0).toNat-1)<=y.val/\y.val<2 ^ (Q9.getD y.val 0).toNat:=by decide +kernel
set_option maxRecDepth 100000 in
theorem Ma:Q9.length=256:=by rfl
theorem len8{y:Nat}(h0:0<y)(h:y<256):∃ t:Nat,vz Q9 (y:Int)=(t:Int)/\1<=t/\t<=8/\2 ^ (t-1)<=y/\y<2 ^ t:=by
 have:=SY ⟨y,h⟩ (by simp; omega)
 refine⟨(Q9.getD y 0).toNat,?_,this⟩
 unfold vz
 rw[zA]
theorem Ro{x s:Nat}(hs:s<=32):jx .u32 (x:Int) (s:Int)=((x / 2 ^ s:Nat):Int):=by
 show Int.fdiv (x:Int) (2 ^ (min (s:Int).toNat 32))=_
 grind
set_option maxRecDepth 100000 in
theorem SX{x:Nat}(h0:0<x)(h:x<4294967296):∃ t:Nat,(fq (x:Int)).run=some (t:Int)/\1<=t/\t<=32/\2 ^ (t-1)<=x/\x<2 ^ t:=by
 have zox:fq (x:Int)=(.zl (((decide ((65536:Int)<=(x:Int)))=true)->((0:Int)<=(16:Int))) <|
  .zl (((decide ((256:Int)<=(bif (decide ((65536:Int)<=(x:Int)))then(jx .u32 (x:Int) (16:Int))else(x:Int))))=true)->((0:Int)<=(8:Int))) <|
  .zl (xb (wu8 (bif (decide ((256:Int)<=(bif (decide ((65536:Int)<=(x:Int)))then(jx .u32 (x:Int) (16:Int))else(x:Int))))then(jx .u32 (bif (decide ((65536:Int)<=(x:Int)))then(jx .u32 (x:Int) (16:Int))else(x:Int)) (8:Int))else(bif (decide ((65536:Int)<=(x:Int)))then(jx .u32 (x:Int) (16:Int))else(x:Int)))) Q9.length) <|
  .ret (ql ((bif (decide ((256:Int)<=(bif (decide ((65536:Int)<=(x:Int)))then(jx .u32 (x:Int) (16:Int))else(x:Int))))then(ql ((bif (decide ((65536:Int)<=(x:Int)))then(16:Int)else(0:Int))+(8:Int)))else(bif (decide ((65536:Int)<=(x:Int)))then(16:Int)else(0:Int)))+(ql (vz Q9 (wu8 (bif (decide ((256:Int)<=(bif (decide ((65536:Int)<=(x:Int)))then(jx .u32 (x:Int) (16:Int))else(x:Int))))then(jx .u32 (bif (decide ((65536:Int)<=(x:Int)))then(jx .u32 (x:Int) (16:Int))else(x:Int)) (8:Int))else(bif (decide ((65536:Int)<=(x:Int)))then(jx .u32 (x:Int) (16:Int))else(x:Int)))))))):T Int):=by rfl
 rw[zox,Ma]
 -- y: what is left; k: how many bits ahead of it
 obtain⟨y,k,e1,e2,hk,hy0,hy,hlo,hhi⟩:∃ y k:Nat,(bif (decide ((256:Int)<=(bif (decide ((65536:Int)<=(x:Int)))then(jx .u32 (x:Int) (16:Int))else(x:Int))))then(jx .u32 (bif (decide ((65536:Int)<=(x:Int)))then(jx .u32 (x:Int) (16:Int))else(x:Int)) (8:Int))else(bif (decide ((65536:Int)<=(x:Int)))then(jx .u32 (x:Int) (16:Int))else(x:Int)))=(y:Int) /\
   (bif (decide ((256:Int)<=(bif (decide ((65536:Int)<=(x:Int)))then(jx .u32 (x:Int) (16:Int))else(x:Int))))then(ql ((bif (decide ((65536:Int)<=(x:Int)))then(16:Int)else(0:Int))+(8:Int)))else(bif (decide ((65536:Int)<=(x:Int)))then(16:Int)else(0:Int)))=(k:Int) /\
   k<=24/\0<y/\y<256/\y*2 ^ k<=x/\x<(y+1)*2 ^ k:=by
  have s16:jx .u32 (x:Int) 16=((x / 65536:Nat):Int):=Ro (s:=16) (Z)
  have s8:∀ z:Nat,jx .u32 (z:Int) 8=((z / 256:Nat):Int):=λz=>Ro (s:=8) (Z)
  by_cases c1:65536<=x
  ·rw[show decide ((65536:Int)<=(x:Int))=true from decide_eq_true (Z)]
   simp only[cond_true,s16]
   by_cases c2:256<=x / 65536
   ·rw[show decide ((256:Int)<=((x / 65536:Nat):Int))=true from decide_eq_true (Z)]
    simp only[cond_true,s8]
    exact⟨x / 65536 / 256,24,rfl,qj,Z,Z,Z,Z,Z⟩
   ·rw[show decide ((256:Int)<=((x / 65536:Nat):Int))=false from decide_eq_false (Z)]
    simp only[cond_false]
    exact⟨x / 65536,16,rfl,rfl,Z,Z,Z,Z,Z⟩
  ·rw[show decide ((65536:Int)<=(x:Int))=false from decide_eq_false (Z)]
   simp only[cond_false]
   by_cases c2:256<=x
   ·rw[show decide ((256:Int)<=(x:Int))=true from decide_eq_true (Z)]
    simp only[cond_true,s8]
    exact⟨x / 256,8,rfl,qj,Z,Z,Z,Z,Z⟩
   ·rw[show decide ((256:Int)<=(x:Int))=false from decide_eq_false (Z)]
    simp only[cond_false]
    exact⟨x,0,rfl,rfl,Z,Z,Z,Z,Z⟩
 obtain⟨t,t1,t2,t3,t4,t5⟩:=len8 hy0 hy
 rw[e1,e2,zeJ (Z) (Z),t1,qv (x:=(t:Int)) (Z) (Z),qv (Z) (Z)]
 refine⟨k+t,?_,Z,Z,?_,?_⟩
 ·rw[xe (λ_=>Z),xe (λ_=>Z),vF _ (Z) (Z),xz]; rfl
 ·rw[show k+t-1=(t-1)+k by omega,qB]
  exact zN (Y _ t4) hlo
 ·rw[show k+t=t+k by omega,qB]
  exact Nat.lt_of_lt_of_le hhi (Y _ t5)
theorem z3b{x:Nat}(h0:0<x)(h:x<4294967296):∃ s:Nat,(kE (x:Int)).run=some (s:Int)/\s<32/\2147483648<=x*2 ^ s/\x*2 ^ s<4294967296:=by
 obtain⟨t,t1,t2,t3,t4,t5⟩:=SX h0 h
 refine⟨32-t,?_,Z,?_,?_⟩
 ·unfold kE
  rw[zq t1,xz,qv (Z) (Z)]
  grind
 ·have:=Y (2 ^ (32-t)) t4
  rw[<- qB,show t-1+(32-t)=31 by omega]at this
  exact this
 ·have:=qE t5 (show 0<2 ^ (32-t)from zU (Z))
  rw[<- qB,show t+(32-t)=32 by omega]at this
  exact this
theorem horner(a b c:Nat):(a*4294967296+b)*4294967296+c=a*18446744073709551616+b*4294967296+c:=by
 rw[Nat.add_mul,qK]
theorem LN{u2 u1 u0 v1 v2:Nat}(X:u2<4294967296)(h1:u1<4294967296)(h0:u0<4294967296)(hv1:v1<4294967296)(Hn:v2<4294967296)(hn:2147483648<=v1)
  (ht:(u2*4294967296+u1)*4294967296+u0<(v1*4294967296+v2+1)*4294967296) :
  (pR (u2:Int) (u1:Int) (u0:Int) (v1:Int) (v2:Int)).run=some ((min (((u2*4294967296+u1)*4294967296+u0) / (v1*4294967296+v2)) 4294967295:Nat):Int):=by
 rw[horner]at ht ⊢
 exact Sy X h1 h0 hv1 Hn hn ht
theorem z4r(a b P t:Nat):t+P*b+P*4294967296*a=(a*4294967296+b)*P+t:=wa
theorem zml(d:List Int)(n:Nat)(hn:d.length=n+2):nv d=(lm d (n+1)*4294967296+lm d n)*4294967296 ^ n+nv (d.take n):=by
 have h1:=vi d n
 have X:=vi d (n+1)
 rw[hH (Z)]at X
 rw[X,h1,zE,z4r]
theorem z4s{hl a b c P B0 t1 t2 t3:Nat}(h1:t1=B0+P*c)(X:t2=t1+P*hl*b)(h3:t3=t2+P*hl*hl*a):t3=((a*hl+b)*hl+c)*P+B0:=by
 rw[h3,X,h1]; grind
theorem zqP(w:List Int)(n:Nat)(h:nv (w.drop (n+1+1+1))=0):nv w=((lm w (n+1+1)*4294967296+lm w (n+1))*4294967296+lm w n)*4294967296 ^ n+nv (w.take n):=by
 have h0:nv w=nv (w.take (n+1+1+1)):=by
  by_cases c:n+1+1+1<=w.length
  ·have:=nR w (n+1+1+1) c
   rw[h,Nat.mul_zero,qI]at this; exact this
  ·rw[hH (Z)]
 have h1:=vi w n
 have X:=vi w (n+1)
 have h3:=vi w (n+1+1)
 rw[zE]at X
 rw[zE,zE,<- h0]at h3
 exact z4s h1 X h3
theorem Md{a b:List Int}{k i:Nat}(h:a.take k=b.take k)(hi:i<k):lm a i=lm b i:=by
 have e:=congrArg (λl=>l[i]?) h
 simp only[qZ,if_pos hi]at e
 unfold lm nth
 rw[zQ,zQ,zA,e]
theorem zeD{U3 V2 D h2 zB hx hd:Nat}(hU:hx=U3*D+h2)(hV:hd=V2*D+zB)(hY:zB<D)(hUV:hx<hd*4294967296):U3<(V2+1)*4294967296:=by
 have h1:U3*D<(V2+1)*4294967296*D:=by
  have e:(V2+1)*4294967296*D=(V2*D+D)*4294967296:=wa
  rw[e]
  have:hd*4294967296<=(V2*D+D)*4294967296:=Y _ (Z)
  omega
 exact zW h1
theorem TP(d:List Int)(V:qy d)(n:Nat)(hn:d.length=n+2)(Fy:2147483648<=lm d (n+1))(w:List Int)(hw:qy w)(hwl:n+1+1+1<=w.length)(hW:nv w<nv d*4294967296) :
  ∃ x:Nat,(pR (lm w (n+1+1):Int) (lm w (n+1):Int) (lm w n:Int) (lm d (n+1):Int) (lm d n:Int)).run=some (x:Int)/\x<4294967296/\nv w / nv d<=x/\x<=nv w / nv d+1/\nv w<4294967296 ^ (d.length+1):=by
 have Fm:=GA V
 have hdt:=zml d n hn
 have hdn:=cG V n
 have hWp:nv w<4294967296 ^ (d.length+1):=by
  rw[zE]
  exact Nat.lt_of_lt_of_le hW (Y _ (Nat.le_of_lt Fm))
 have hz:=XF hw (d.length+1) (Z) hWp
 rw[show d.length+1=n+1+1+1 by omega]at hz
 have ht3:=zqP w n hz
 have hwn:=cG hw n
 have hU3:=zeD ht3 hdt hdn hW
 refine⟨_,LN (lZ hw _) (lZ hw _) (lZ hw _) (lZ V _) (lZ V _) Fy hU3,?_,?_,?_,hWp⟩
 ·exact zF (Nat.min_le_right _ _) (qj)
 ·refine(NN ht3 hwn hdt hdn ?_ hW rfl).1
  exact zN (Y 4294967296 Fy) (Nat.le_add_right _ _)
 ·refine(NN ht3 hwn hdt hdn ?_ hW rfl).2
  exact zN (Y 4294967296 Fy) (Nat.le_add_right _ _)
theorem zpk{zD hd x:Nat}(g2:x<=zD / hd+1):x*hd<=zD+hd:=by
 have h1:=Y hd g2
 have X:=qY zD hd
 rw[Nat.add_mul,Nat.one_mul]at h1
 omega
theorem digit{zD hd x:Nat}(hV:0<hd)(g1:zD / hd<=x)(g2:x<=zD / hd+1):(if zD<x*hd then x-1 else x)=zD / hd:=by
 have hdm:=qD zD hd
 have hml:=zX zD hV
 have hz:0<=zD / hd:=xE _
 split
 ·rename_i c
  have:x≠zD / hd:=by
   intro h
   rw[h,W]at c; omega
  generalize zD / hd=z at *
  omega
 ·rename_i c
  have hle:x<=zD / hd:=(zM hV).2 (Z)
  exact Nat.le_antisymm hle g1
theorem zeH{l N hd:Nat}(B:l<4294967296)(hN:N<hd):l+4294967296*N<hd*4294967296:=by
 have:=zI 4294967296 (show N+1<=hd from hN)
 omega
theorem Me(d:List Int)(V:qy d)(n:Nat)(hn:d.length=n+2)(ln:n<=999999990)(Fy:2147483648<=lm d (n+1))(y:Int)(i:Nat)(li:i<=1000000000)(u q:List Int)(B:qy u)(lu:u.length<=2000000000)(hiu:i+d.length<u.length)
  (hq:qy q) (hiq:i<q.length) (wO:nv (u.drop (i+1))<nv d) :
  ∃ (xs:List Int) (z:Nat),(nQ y d ((n+2:Nat):Int) ((i:Int),u,q)).run=some (.inl ((i:Int)-1,xs,q.set i (z:Int)))/\z<4294967296/\qy xs/\xs.length=u.length/\xs.take i=u.take i/\nv (xs.drop i)<nv d /\
   nv (xs.drop i)+z*nv d=lm u i+4294967296*nv (u.drop (i+1)):=by
 have hwd:=Ye (a:=u) (i:=i) (Z)
 have hW:=zeH (lZ B i) wO
 rw[<- hwd]at hW
 obtain⟨x,hg,U,g1,g2,hWp⟩:=TP d V n hn Fy (u.drop i) (sb B i) (by rw[List.length_drop]; omega) hW
 have hdp:0<nv d:=zF (xE _) wO
 obtain⟨xs,hr,IV,hxn,hxt,NT⟩:=TJ d V (Z) x U u B (Z) i hiu hWp (zpk g2)
 have zcJ:=digit hdp g1 g2
 rw[zcJ]at NT
 rw[sc,sc,sc]at hg
 have hdq:nv (u.drop i) / nv d<4294967296:=zF g1 U
 have zcV:nv (xs.drop i)<nv d:=by
  have h1:=qD (nv (u.drop i)) (nv d)
  have X:=zX (nv (u.drop i)) hdp
  grind
 refine⟨xs,nv (u.drop i) / nv d,?_,hdq,IV,hxn,hxt,zcV,by rw[NT,hwd]⟩
 have hx1:∀ c:Bool,c=decide (nv (u.drop i)<x*nv d)->(if c=true then wm ((x:Int)-1)else(x:Int))=((nv (u.drop i) / nv d:Nat):Int):=by
  intro c hc
  rw[<- zcJ]
  by_cases cc:nv (u.drop i)<x*nv d
  ·have Yc:x≠0:=by intro h; subst h; omega
   rw[hc,decide_eq_true cc,if_pos rfl,if_pos cc,bf (Z) (Z)]; omega
  ·grind
 generalize nv (u.drop i) / nv d=z at *
 clear g1 g2 NT zcJ hW hWp wO zcV hwd
 have ei:ql ((i:Int)-1)=(i:Int)-1:=qv (Z) (Z)
 have a0:ql ((i:Int)+((n+2:Nat):Int))=((i+(n+1+1):Nat):Int):=by rw[qv (Z) (Z)]; omega
 have a1:ql (((i+(n+1+1):Nat):Int)-1)=((i+(n+1):Nat):Int):=by rw[qv (Z) (Z)]; omega
 have a2:ql (((i+(n+1+1):Nat):Int)-2)=((i+n:Nat):Int):=by rw[qv (Z) (Z)]; omega
 have a3:ql (((n+2:Nat):Int)-1)=((n+1:Nat):Int):=by rw[qv (Z) (Z)]; omega
 have a4:ql (((n+2:Nat):Int)-2)=((n:Nat):Int):=by rw[qv (Z) (Z)]; omega
 have a5:ql (((i+(n+1+1):Nat):Int)+1)=((i+(n+1+1)+1:Nat):Int):=i1 _ (Z)
 have zp9:i+(n+1+1)+1-i=d.length+1:=Z
 unfold nQ
 simp only[ei,a0,a1,a2,a3,a4,a5]
 rw[vM (qu)]
 rw[vF _ (Z) (Z),ij _ rfl (Z),vF _ (Z) (Z),ij _ rfl (Z),vF _ (Z) (Z),ij _ rfl (Z),vF _ (Z) (Z),vF _ (Z) (Z)]
 simp only[zA,Nat.zero_add,bN,pC B,lv V,zp9]
 rw[zq hg]
 have hc:=hx1 _ rfl
 rw[zq (a:=((z:Int),xs,q)) ?_]
 ·simp only[KF hdq]
  rw[vF _ (Z) (Z),ij _ rfl (Z),bI _ (qu) rfl (qu),bI _ rfl rfl rfl,xe rfl,gA _ (qu),xz]
 ·rw[XN _ (Z) (Z) (Z),xe rfl,xe rfl,zq hr]
  simp only[J8]
  by_cases cc:nv (u.drop i)<x*nv d
  ·rw[if_pos (decide_eq_true cc)]at hc ⊢
   rw[bI _ rfl rfl rfl,bI _ (Z) rfl (Z),xe rfl,xe rfl,xz,hc]
  ·rw[if_neg (by simpa using cc)]at hc ⊢
   rw[bI _ rfl rfl rfl,bI _ (Z) rfl (Z),xe rfl,xe rfl,xz,hc]
theorem Tc(d:List Int)(V:qy d)(m n:Nat)(hn:d.length=n+2)(hm:n+2<=m)(lm':m<=999999990)(Fy:2147483648<=lm d (n+1))(u0:List Int)(hu0:qy u0)(hlu:u0.length=m+1)
  (ud:nv (u0.drop (m-(n+2)+1))<nv d) (y:Int) :
  ∃ r:List Int×List Int,(Kp y d ((n+2:Nat):Int) (((m-(n+2):Nat):Int),u0,I (m-(n+2)+1) 0)).run=some r/\qy r.1/\r.1.length=m+1/\qy r.2/\r.2.length=m-(n+2)+1/\nv r.1<nv d/\nv u0=nv r.2*nv d+nv r.1:=by
 refine T.cR (λs:Int×List Int×List Int=>∃ k:Nat,s.1=(k:Int)-1/\k<=m-(n+2)+1/\qy s.2.1/\s.2.1.length=m+1/\qy s.2.2/\s.2.2.length=m-(n+2)+1/\s.2.1.take k=u0.take k /\
   nv (s.2.1.drop k)<nv d/\nv (u0.drop k)=nv (s.2.2.drop k)*nv d+nv (s.2.1.drop k))
  (λs=>(s.1+1).toNat) _ ?_ ⟨m-(n+2)+1,qu,zP _,hu0,hlu,vT _,qu,rfl,ud,qu⟩
 rintro⟨_,u,q⟩ ⟨k,rfl,hk,B,hul,hq,hql,htk,wO,hv⟩
 simp only at B hul hq hql htk wO hv ⊢
 cases k with
 | zero =>
  right
  refine⟨(u,q),?_,B,hul,hq,hql,wa,wa⟩
  unfold nQ
  simp
 | succ i =>
  left
  obtain⟨xs,z,hr,hz,IV,hxn,hxt,hxm,NT⟩:=Me d V n hn (Z) Fy y i (Z) u q B (Z) (Z) hq (Z) wO
  have e1:((i+1:Nat):Int)-1=(i:Int):=Z
  refine⟨((i:Int)-1,xs,q.set i (z:Int)),wa,⟨i,rfl,Z,IV,hxn.trans hul,kl hq _ hz,wa,?_,hxm,?_⟩,qu⟩
  ·simp only
   have:=congrArg (List.take i) htk
   grind
  ·simp only
   rw[set_drop _ (Z),zA,Ye (a:=u0) (Z),<- Md htk (show i<i+1 by omega)]
   grind
theorem z2k{A hl S Q oE:Nat}(hS:0<S)(h:A*S=Q*(hl*S)+oE)(hR:oE<hl*S):Q=A / hl/\oE / S=A % hl:=by
 have hB:0<hl:=zO λz=>by subst z; simp at hR
 have h1:=qD oE S
 have h3:A*S=S*(Q*hl+oE / S)+oE % S:=by
  grind
 have h4:oE % S=0:=by
  have:=congrArg (· % S) h3
  simp only[Nat.mul_mod_left]at this
  rw[qH,Nat.add_mul_mod_self_left,Nat.mod_mod]at this
  grind
 rw[h4,qI,W A]at h3
 have h5:=xC hS h3
 have h6:oE / S<hl:=(zL hS).2 hR
 constructor
 ·rw[h5,W,Nat.mul_add_div hB,qJ h6,qI]
 ·rw[h5,W,Nat.mul_add_mod,qV h6]
theorem z4l{A S P D hd h2:Nat}(hA:A<D*P)(hS:S<=2147483648)(hV:2147483648*P<=hd)(hX:h2*D<=A*S)(hD:0<D)(hS0:0<S):h2<hd:=by
 have h1:A*S<D*hd:=by
  have a1:A*S<D*P*S:=qE hA hS0
  have a2:D*P*S<=D*hd:=by
   have:P*S<=hd:=by
    have:=zI P hS
    grind
   rw[qK]
   exact zI D this
  omega
 have X:h2*D<hd*D:=by rw[W hd]; exact zF hX h1
 exact zW X
theorem Dp(a b:List Int)(ha:qy a)(J:qy b)(la:a.length<=100000000)(n:Nat)(hbn:b.length=n+2)(hba:b.length<=a.length)(Fy:lm b (n+1)≠0) :
  (UP a b).run=some (vU (nv a / nv b),vU (nv a % nv b)):=by
 have ht:=lZ J (n+1)
 obtain⟨s,hs,hs1,hs2,hs3⟩:=z3b (x:=lm b (n+1)) (Z) ht
 have zhz:2 ^ s<=2147483648:=by
  have:2 ^ s<=2 ^ 31:=zZ (Z) (Z)
  exact this
 have WO:0<2 ^ s:=zU (Z)
 have hBt:=zml b n hbn
 -- the divisor
 have zaO:nv b*2 ^ s<4294967296 ^ b.length:=by
  have h1:=vi b (n+1)
  rw[hH (Z)]at h1
  have X:=cG J (n+1)
  have h3:nv b<4294967296 ^ (n+1)*(lm b (n+1)+1):=by rw[h1,qP]; omega
  rw[hbn]
  have h4:(lm b (n+1)+1)*2 ^ s<=4294967296:=by
   have hm:4294967296=2 ^ (32-s)*2 ^ s:=fZ s (Z)
   have h5:lm b (n+1)<2 ^ (32-s):=by
    rw[hm]at hs3
    exact zW hs3
   have:=Y (2 ^ s) (show lm b (n+1)+1<=2 ^ (32-s)from h5)
   grind
  have h5:nv b*2 ^ s<4294967296 ^ (n+1)*(lm b (n+1)+1)*2 ^ s:=qE h3 WO
  have h6:4294967296 ^ (n+1)*(lm b (n+1)+1)*2 ^ s<=4294967296 ^ (n+2):=by
   rw[qK,zE 4294967296 (n+1)]
   exact zI _ h4
  grind
 obtain⟨d,V,Fm,hdn,hdv⟩:=XB b J (Z) s b.length hs1 (zP _) (Z) zaO
 have zha:nv a*2 ^ s<4294967296 ^ (a.length+1):=by
  have h1:=GA ha
  rw[zE]
  exact xB h1 (zN zhz (Z)) (Z)
 obtain⟨u,hu,hul,hun,huv⟩:=XB a ha (Z) s (a.length+1) hs1 (Z) (Z) zha
 -- gy highest limb
 have zaK:2147483648<=lm d (n+1):=by
  have h1:=vi d (n+1)
  rw[hH (Z),hdv]at h1
  have X:=cG Fm (n+1)
  have h3:=vi b (n+1)
  rw[hH (Z)]at h3
  have h4:4294967296 ^ (n+1)*(lm b (n+1)*2 ^ s)<=nv b*2 ^ s:=by
   rw[<- qK]
   exact Y _ (Z)
  have h5:4294967296 ^ (n+1)*2147483648<=nv b*2 ^ s:=zN (zI _ hs2) h4
  have h6:4294967296 ^ (n+1)*2147483648<4294967296 ^ (n+1)*(lm d (n+1)+1):=by
   rw[qP]; omega
  have:=Nat.lt_of_mul_lt_mul_left h6
  omega
 have ud:nv (u.drop (a.length-(n+2)+1))<nv d:=by
  have h1:=nR u (a.length-(n+2)+1) (Z)
  have X:nv (u.drop (a.length-(n+2)+1))*4294967296 ^ (a.length-(n+2)+1)<=nv a*2 ^ s:=by
   rw[<- huv,h1,W]; omega
  have h3:2147483648*4294967296 ^ (n+1)<=nv d:=by
   have h4:=vi d (n+1)
   rw[hH (Z)]at h4
   have h5:=zI (4294967296 ^ (n+1)) zaK
   rw[W 2147483648]; omega
  have h4:nv a<4294967296 ^ (a.length-(n+2)+1)*4294967296 ^ (n+1):=by
   rw[<- qB,show a.length-(n+2)+1+(n+1)=a.length by omega]
   exact GA ha
  exact z4l h4 zhz h3 X (Ig _) WO
 obtain⟨⟨xu,xq⟩,hr,hxu,hxun,hxq,hxqn,hxlt,NT⟩:=Tc d Fm a.length n (Z) (Z) (Z) zaK u hul (Z) ud (s:Int)
 simp only at hxu hxun hxq hxqn hxlt NT
 rw[huv,hdv]at NT
 rw[hdv]at hxlt
 obtain⟨f1,f2⟩:=z2k WO NT hxlt
 -- the text
 have e1:ql ((b.length:Int)-1)=((n+1:Nat):Int):=by rw[qv (Z) (Z)]; omega
 have es:wm (s:Int)=s:=mb (Z)
 have e2:ql ((a.length:Int)+1)=((a.length+1:Nat):Int):=i1 _ (Z)
 have e3:ql (ql ((a.length:Int)-((n+2:Nat):Int))+1)=((a.length-(n+2)+1:Nat):Int):=by rw[qv (x:=(a.length:Int)-((n+2:Nat):Int)) (Z) (Z),qv (Z) (Z)]; omega
 have e4:ql (((a.length-(n+2)+1:Nat):Int)-1)=((a.length-(n+2):Nat):Int):=im1 _ (Z)
 have e5:ql (s:Int)=s:=qv (Z) (Z)
 have e6:ql (0-(s:Int)) = -(s:Int):=by rw[qv (Z) (Z)]; omega
 unfold UP
 simp only[e1,e2,bN,lv J]
 rw[vF _ (Z) (Z),zq hs]
 simp only[es]
 rw[zq hu,zq V]
 simp only[e3,e4,e5,e6,zA,zY,Nat.zero_add,qG,List.take_length,hdn,hbn]
 rw[T.run_mk _ (Z) (Z) (Z) (Z),xe rfl,bI _ rfl rfl rfl,bI _ rfl rfl rfl,xe rfl,GX]
 have zoz:d.take (n+2)=d:=zK (Z)
 simp only[zoz]
 rw[zq hr]
 simp only[List.take_length]
 rw[xe rfl,xe rfl,zq (cf xq hxq (Z)),XN _ (Z) (Z) (Z)]
 have ec:jS (e:=.int .u32) 0 ((n+2:Nat):Int) xu=xu.take (n+2):=by unfold jS; simp only[zA,Int.toNat_zero,qG]
 have hxt:nv (xu.take (n+2))=nv xu:=by
  have h1:=nR xu (n+2) (Z)
  have X:=XF hxu (n+2) (Z) (Nat.lt_trans hxlt (by rw[<- hbn]; exact zaO))
  rw[X]at h1; omega
 rw[ec]
 have hsh:(mK (xu.take (n+2)) (-(s:Int))).run=some (vU (nv xu / 2 ^ s)):=by
  rcases qC s with z | z
  ·subst z
   have:=Hs (xu.take (n+2)) (Vp hxu _) (by simp; omega) 0 (Z)
   rw[hxt]at this
   simpa using this
  ·have:=Hr (xu.take (n+2)) (Vp hxu _) (by simp; omega) s (Z) z
   rw[hxt]at this
   exact this
 rw[zq hsh,xz,f2,f1]
theorem z9k{A:Nat}(k:Nat)(h:(vU A).length=k+1):lm (vU A) k≠0:=by
 intro hz
 have h1:=vi (vU A) k
 rw[hH (Z),hz,Nat.mul_zero,qI,ju]at h1
 have X:=cG (wM A) k
 have:=uL.2 (show A<4294967296 ^ k by omega)
 omega
theorem iY(a b:List Int)(ha:qy a)(J:qy b)(la:a.length<=100000000)(lb:b.length<=100000000) :
  (dQ a b).run=some (if nv b=0 then([],[],false)else(vU (nv a / nv b),vU (nv a % nv b),true)):=by
 have qa:=vQ ha
 have qb:=vQ J
 unfold dQ
 rw[zq (cf a ha (Z)),zq (cf b J (Z))]
 generalize nv a=A at *
 generalize nv b=hl at *
 by_cases hB:hl=0
 ·subst hB
  rw[hJ]; simp
 ·have kB:(vU hl).length≠0:=by
   intro h
   exact hB (dS.1 (zG h))
  rw[if_neg hB,je (by simpa using kB),zq (Kl _ _ (wM A) (wM hl) (Z) (Z)),ju,ju]
  by_cases wO:A<hl
  ·rw[vM (by unfold EL; rw[if_pos wO]; rfl),zq (Z2 _ (wM A) (Z)),xz,ju,qJ wO,qV wO,hJ]
  ·rw[je (by unfold EL; rw[if_neg wO]; split<;>simp)]
   by_cases h1:(vU hl).length=1
   ·-- by one limb
    have IU:vU hl=[(hl:Int)]:=by
     rw[Wo hB]at h1 ⊢
     have:hl / 4294967296=0:=by
      have:(vU (hl / 4294967296)).length=0:=by simpa using h1
      exact dS.1 (zG this)
     rw[this,hJ]
     congr 1; omega
    have hBl:hl<4294967296:=by
     have:=uL.1 (Nat.le_of_eq h1)
     simpa using this
    have e0:nth (vU hl) 0 0=(hl:Int):=by rw[IU]; rfl
    have hm:=zX A (zO hB)
    have hs:=WZ (vU A) (wM A) (Z) hl (Z) hBl
    rw[ju]at hs
    rw[vM (by rw[h1]; rfl),vF _ (Z) (Z)]
    simp only[bN,e0]
    rw[zq hs]
    simp only[mb (show A % hl<18446744073709551616 by omega)]
    rw[zq (Vz _ (Z)),xz]
   ·obtain⟨n,hn⟩:∃ n,(vU hl).length=n+2:=⟨(vU hl).length-2,Z⟩
    have hle:(vU hl).length<=(vU A).length:=by
     rcases Nat.lt_or_ge (vU A).length (vU hl).length with h | h
     ·exact absurd (JK h) wO
     ·exact h
    have B:=Dp (vU A) (vU hl) (wM A) (wM hl) (Z) n hn hle (z9k (n+1) (Z))
    rw[ju,ju]at B
    rw[je (by simp; omega),zq B,xz]
theorem Km(a b:List Int)(ha:qy a)(J:qy b)(la:a.length<=100000000)(lb:b.length<=100000000):(Wl a b).run=some (vU (zJ (nv a) (nv b))):=by
 have qa:=vQ ha
 have qb:=vQ J
 unfold Wl
 rw[zq (Z2 a ha (Z)),zq (Z2 b J (Z))]
 generalize nv a=A at *
 generalize nv b=hl at *
 have key:(Gy (vU A,vU hl)).run=some (vU (zJ A hl)):=by
  have:=sd (r:=si) (λs:List Int×List Int=>∃ A hl:Nat,s=(vU A,vU hl)/\(vU A).length<=100000000/\(vU hl).length<=100000000)
   (λs=>nv s.2) (λs=>vU (zJ (nv s.1) (nv s.2))) ?_ (s:=(vU A,vU hl)) ⟨A,hl,rfl,Z,Z⟩
  ·rw[ju,ju]at this; exact this
  ·rintro _ ⟨A,hl,rfl,hA,hB'⟩
   simp only[ju]
   by_cases hB:hl=0
   ·right
    subst hB
    unfold si
    rw[hJ]; simp
   ·left
    have V:=iY (vU A) (vU hl) (wM A) (wM hl) hA hB'
    rw[ju,ju,if_neg hB]at V
    have hm:=zX A (zO hB)
    have kB:(vU hl).length≠0:=λh=>hB (dS.1 (zG h))
    refine⟨(vU hl,vU (A % hl)),?_,⟨hl,A % hl,rfl,hB',?_⟩,by simpa using hm,?_⟩
    ·unfold si
     rw[vM (by simp; omega),zq V,xz]
    ·have:(vU (A % hl)).length<=(vU hl).length:=uL.2 (Nat.lt_trans hm (uL.1 (zP _)))
     omega
    ·simp only[ju]
     rw[Nat.gcd_comm,<- Nat.gcd_rec,Nat.gcd_comm]
 rw[zq key,xz]
theorem z3M:qy [(1:Int)]:=by
 intro x U; simp at U; omega
@[simp] theorem CO:zb (.int .u8)=(0:Int):=rfl
theorem z6A(r:Nat):vz ([48,49,50,51,52,53,54,55,56,57]:zo) ((r % 10:Nat):Int)=((48+r % 10:Nat):Int):=by
 have key:∀ d:Fin 10,vz ([48,49,50,51,52,53,54,55,56,57]:zo) ((d.val:Nat):Int)=((48+d.val:Nat):Int):=qj
 exact key ⟨r % 10,Z⟩
theorem Sx(q:List Int)(rest:Nat)(hr:rest<4294967296)(xs:List Int)(U:xs.length<=1000000000):(Qg q ((rest:Int),0,xs)).run=some (xs++Qo 9 rest):=by
 have:=sd (r:=lf q) (λs:Int×Int×List Int=>∃ (r k:Nat),s.1=(r:Int)/\r<4294967296/\s.2.1=(k:Int)/\k<=9/\s.2.2.length<=1000000000+k)
  (λs=>9-s.2.1.toNat) (λs=>s.2.2++Qo (9-s.2.1.toNat) s.1.toNat) ?_ (s:=((rest:Int),0,xs)) ⟨rest,0,rfl,hr,rfl,Z,Z⟩
 ·unfold Qg
  grind
 ·rintro⟨_,_,ys⟩ ⟨r,k,rfl,h1,rfl,X,h3⟩
  simp only at h3 ⊢
  by_cases hk:k<9
  ·left
   have e1:xL (r:Int) 10=((r % 10:Nat):Int):=by rw[XW (Z)]; rfl
   have e2:ba (xK (r:Int) 10)=((r / 10:Nat):Int):=by rw[XV (Z)]; exact KF (n:=r / 10) (Z)
   refine⟨(((r / 10:Nat):Int),((k+1:Nat):Int),ys++[((48+r % 10:Nat):Int)]),?_,⟨r / 10,k+1,rfl,Z,rfl,Z,wa⟩,wa,?_⟩
   ·unfold lf
    simp only[e1,z6A]
    rw[vM (wa)]
    simp(disch:=omega) [oI]
   ·simp only[zA]
    rw[show 9-k=(9-(k+1))+1 by omega,Qo]
    simp
  ·right
   have:k=9:=Z
   subst this
   unfold lf
   simp[Qo]
theorem CB(n j:Nat)(h:n<4294967296 ^ j):(blk n).length<=18*j:=by
 induction j generalizing n with
 | zero =>
  have:n=0:=by simpa using h
  subst this; rw[X6]; simp
 | succ j ih =>
  by_cases hn:n=0
  ·grind
  ·rw[Y2 hn]
   by_cases X:n / 1000000000=0
   ·rw[X,X6]; simp[Ih]; omega
   ·rw[Y2 X]
    have h3:n / 1000000000 / 1000000000<4294967296 ^ j:=by
     grind
    have:=ih _ h3
    simp[Ih]; omega
theorem LL(n:Nat)(hn:(vU n).length<=1000000):(Qf (vU n,[])).run=some (blk n):=by
 have hbl:=CB n (vU n).length (uL.1 (zP _))
 have:=sd (r:=l9) (λs:List Int×List Int=>∃ m:Nat,s.1=vU m/\(vU m).length<=1000000/\s.2.length+(blk m).length<=18000000)
  (λs=>nv s.1) (λs=>s.2++blk (nv s.1)) ?_ (s:=(vU n,[])) ⟨n,rfl,hn,wa⟩
 ·unfold Qf
  simpa using this
 ·rintro⟨_,xs⟩ ⟨m,rfl,h1,X⟩
  simp only[ju]at X ⊢
  by_cases hm:m=0
  ·right
   subst hm
   unfold l9
   rw[hJ,X6]; simp
  ·left
   have kB:(vU m).length≠0:=λh=>hm (dS.1 (zG h))
   have hs:(pS (vU m) 1000000000).run=some (vU (nv (vU m) / 1000000000),((nv (vU m) % 1000000000:Nat):Int)):=WZ (vU m) (wM m) (Z) 1000000000 (Z) (Z)
   rw[ju]at hs
   have hbm:=Y2 hm
   have hg:=Sx (vU (m / 1000000000)) (m % 1000000000) (Z) xs (Z)
   have hlen:(vU (m / 1000000000)).length<=(vU m).length:=uL.2 (zF (qM _ _) (uL.1 (zP _)))
   refine⟨(vU (m / 1000000000),xs++Qo 9 (m % 1000000000)),?_,⟨m / 1000000000,rfl,Z,?_⟩,?_,?_⟩
   ·unfold l9
    rw[vM (wa),zq hs]
    rw[bI _ rfl rfl rfl,xe rfl,zq hg,bI _ rfl rfl rfl,xe rfl,xz]
   ·grind
   ·simp only[ju]; omega
   ·simp only[ju]
    grind
theorem TG(l:List Int)(z:Nat)(B:l≠[])(zhj:∀ x,l.getLast? = some x->x≠48)(hn:l.length+z<=100000000) :
  (UK ((0,(l++I z 48).length),l++I z 48)).run=some ((0,l.length),l++I z 48):=by
 generalize hX:l++I z 48=h2
 have hXl:h2.length=l.length+z:=by rw[<- hX]; simp
 have WN:0<l.length:=List.length_pos_iff.2 B
 have SE:∀ p:Nat,wo h2 p 0=if p<l.length then wo l p 0 else if p<l.length+z then 48 else 0:=by
  intro p
  unfold wo
  grind
 have:=sd (r:=lg) (λs:(Nat×Nat)×List Int=>∃ k:Nat,s.1=(0,l.length+k)/\k<=z/\s.2=h2) (λs=>s.1.2) (λ_=>((0,l.length),h2)) ?_ (s:=((0,h2.length),h2)) ⟨z,by rw[hXl],zP _,rfl⟩
 ·exact this
 ·rintro⟨w,y⟩ ⟨k,h1,hk,X⟩
  simp only at h1 X
  rw[h1,X]
  have e1:ql (((l.length+k:Nat):Int)-1)=((l.length+k-1:Nat):Int):=by rw[qv (Z) (Z)]; omega
  have hg:=SE (l.length+k-1)
  cases k with
  | zero =>
   right
   have TV:wo l (l.length-1) 0≠48:=by
    refine zhj _ ?_
    rw[List.getLast?_eq_getElem?]
    unfold wo
    grind
   rw[qI]at hg
   rw[if_pos (Z)]at hg
   unfold lg
   simp only[qI]at e1 ⊢
   simp only[e1,zA,Nat.zero_add,CO,hg]
   rw[xe (λ_=>⟨⟨Z,Z⟩,⟨rfl,Z⟩⟩),je (by simp[TV]),xe rfl,xe rfl,xz]
  | succ k =>
   left
   refine⟨((0,l.length+k),h2),?_,⟨k,rfl,Z,rfl⟩,qu,rfl⟩
   unfold lg
   simp only[e1,zA,Nat.zero_add,CO,hg]
   rw[xe (λ_=>⟨⟨Z,Z⟩,⟨rfl,Z⟩⟩),vM (by simp; omega),XN _ (Z) (Z) (Z),xe rfl,xe rfl,xz]
   simp
theorem Ik(xs:List Int)(n:Nat)(hn:n<=xs.length)(U:xs.length<=1000000000):∃ ys:List Int,(kG (0,n) xs).run=some ys/\ys.length=xs.length/\ys.take n=(xs.take n).reverse:=by
 have e0:ql ((n:Int)-1)=(n:Int)-1:=qv (Z) (Z)
 have loop:∃ ys:List Int,(dw ((0,n),0,(n:Int)-1,xs)).run=some ys/\ys.length=xs.length/\∀ p,p<n->ys[p]? = xs[n-1-p]? := by
  refine T.cR (λs:(Nat×Nat)×Int×Int×List Int=>s.1=(0,n)/\∃ i:Nat,s.2.1=(i:Int)/\s.2.2.1=(n:Int)-1-(i:Int)/\i<=n/\s.2.2.2.length=xs.length/\2*i<=n+1/\∀ p,p<n->s.2.2.2[p]? = if p<i\/n<p+i+1 then xs[n-1-p]? else xs[p]?)
   (λs=>n-s.2.1.toNat) _ ?_ ⟨rfl,0,rfl,qu,Z,rfl,Z,λp hp=>by rw[if_neg (Z)]⟩
  rintro⟨_,_,_,zs⟩ ⟨rfl,i,rfl,rfl,hi,B,h2i,hv⟩
  simp only at B hv ⊢
  by_cases wO:(i:Int)<(n:Int)-1-(i:Int)
  ·left
   have hj:((n:Int)-1-(i:Int)).toNat=n-1-i:=Z
   have ej:ql ((n:Int)-1-(i:Int)-1)=(n:Int)-1-((i+1:Nat):Int):=by rw[qv (Z) (Z)]; omega
   refine⟨((0,n),((i+1:Nat):Int),(n:Int)-1-((i+1:Nat):Int),(zs.set i (wo zs (n-1-i) 0)).set (n-1-i) (wo zs i 0)),?_,⟨rfl,i+1,rfl,rfl,Z,by simpa using B,Z,?_⟩,by simp; omega⟩
   ·unfold jj
    simp only[hj,zA,Nat.zero_add,CO,i1 i (Z),ej]
    rw[vM (decide_eq_true wO),vF _ (Z) (Z),ij _ rfl (Z),vF _ (Z) (Z),ij _ rfl (Z),vF _ (Z) (Z),ij _ rfl (Z),vF _ (Z) (Z),ij _ (qu) (by simp; omega),xe rfl,gA _ (qu),xz]
   ·intro p hp
    have g1:=hv i (Z)
    have g2:=hv (n-1-i) (Z)
    rw[if_neg (Z)]at g1 g2
    simp only[List.getElem?_set,List.length_set]
    by_cases c1:n-1-i=p
    ·rw[if_pos c1,if_pos (Z),if_pos (Z)]
     unfold wo
     grind
    ·rw[if_neg c1]
     by_cases c2:i=p
     ·rw[if_pos c2,if_pos (Z),if_pos (Z)]
      unfold wo
      grind
     ·grind
  ·right
   refine⟨zs,?_,B,λp hp => ?_⟩
   ·unfold jj
    rw[je (decide_eq_false wO),gA _ rfl,xz]
   ·grind
 obtain⟨ys,hr,B,hv⟩:=loop
 refine⟨ys,?_,B,?_⟩
 ·unfold kG
  rw[gA _ rfl,gA _ rfl,e0,zq hr,gA _ rfl,xz]
 ·apply List.ext_getElem?
  intro p
  by_cases hp:p<n
  ·have Q7:(xs.take n).length=n:=by simp; omega
   rw[qZ,if_pos hp,hv p hp,List.getElem?_reverse (Z),Q7,qZ,if_pos (Z)]
  ·rw[qU (by simp; omega),qU (by simp; omega)]
theorem HQ(a:List Int)(ha:qy a)(la:a.length<=1000000):(mJ a).run=some (pr (nv a)):=by
 have qa:=vQ ha
 unfold mJ
 rw[zq (Z2 a ha (Z))]
 generalize nv a=n at *
 by_cases hn:n=0
 ·subst hn; rw[hJ]; simp[pr]
 ·have kB:(vU n).length≠0:=λh=>hn (dS.1 (zG h))
  rw[je (by simpa using kB),bI _ rfl rfl rfl,gA _ rfl,zq (LL n (Z))]
  have hbl:=CB n (vU n).length (uL.1 (zP _))
  obtain⟨z,hz⟩:=z0r n
  have hzl:=congrArg List.length hz
  rw[List.length_append,zY]at hzl
  have ud:=TG (rd n) z (zbm hn) (z9O n) (Z)
  rw[<- hz]at ud
  obtain⟨ys,hr,B,hv⟩:=Ik (blk n) (rd n).length (Z) (Z)
  rw[gA _ rfl,gA _ rfl,zq ud]
  simp only[GX]
  rw[xe rfl,xe rfl,zq hr,gA _ B.symm,xz]
  simp only[Nat.zero_add,qG]
  rw[hv,hz,List.take_left,<- z0K]
  unfold pr
  rw[if_neg hn]
def XH(neg:Bool)(n d:Nat):Rat:=if n=0\/d=0 then(false,[],[1],())else(neg,vU (n / zJ n d),vU (d / zJ n d),())
def zmb(k:Nat)(a:Rat):Prop:=qy a.2.1/\qy a.2.2.1/\a.2.1.length<=k/\a.2.2.1.length<=k
theorem PT:vU 1=[1]:=by rw[Wo (Z),show 1 / 4294967296=0 from rfl,hJ]; rfl
theorem eB{m n:Nat}(h:m<=n):(vU m).length<=(vU n).length:=uL.2 (zF h (uL.1 (zP _)))
theorem z9L(neg:Bool)(n d k:Nat)(hk:1<=k)(hn:(vU n).length<=k)(V:(vU d).length<=k):zmb k (XH neg n d):=by
 unfold XH
 split
 ·exact⟨vL,z3M,qu,wa⟩
 ·exact⟨wM _,wM _,zN (eB (qM _ _)) hn,zN (eB (qM _ _)) V⟩
theorem MG(neg:Bool)(n d:List Int)(hn:qy n)(V:qy d)(ln:n.length<=100000000)(ld:d.length<=100000000):(sr neg n d).run=some (XH neg (nv n) (nv d)):=by
 have qn:=vQ hn
 have qd:=vQ V
 unfold sr
 rw[zq (Z2 n hn (Z)),zq (Z2 d V (Z))]
 generalize nv n=N at *
 generalize nv d=D at *
 unfold XH
 by_cases h:N=0\/D=0
 ·rw[if_pos h]
  have e:(((vU N).length:Int)==0||((vU D).length:Int)==0)=true:=by
   rcases h with rfl | rfl<;>simp[hJ]
  have h1:(l8 1).run=some (vU 1):=Vz 1 (Z)
  rw[vM e,zq h1,xz,PT]
 ·rw[if_neg h]
  have hN:N≠0:=λz=>h (.inl z)
  have hD:D≠0:=λz=>h (.inr z)
  have n1:(vU N).length≠0:=λh=>hN (dS.1 (zG h))
  have n2:(vU D).length≠0:=λh=>hD (dS.1 (zG h))
  have e:(((vU N).length:Int)==0||((vU D).length:Int)==0)=false:=by rw[Bool.or_eq_false_iff]; exact⟨wa,wa⟩
  have hg:=Km (vU N) (vU D) (wM N) (wM D) (Z) (Z)
  rw[ju,ju]at hg
  have hgp:zJ N D≠0:=λz=>hN (Nat.gcd_eq_zero_iff.1 z).1
  have TV:(vU (zJ N D)).length<=100000000:=zN (eB (xI D (zO hN))) (Z)
  have h1:=iY (vU N) (vU (zJ N D)) (wM N) (wM _) (Z) TV
  have X:=iY (vU D) (vU (zJ N D)) (wM D) (wM _) (Z) TV
  rw[ju,ju,if_neg hgp]at h1 X
  rw[je e,zq hg,zq h1]
  rw[zq X,xz]
theorem z10(n d:Nat)(h:zJ n d≠0):zJ (n / zJ n d) (d / zJ n d)=1:=by
 have:=Nat.gcd_mul_left (zJ n d) (n / zJ n d) (d / zJ n d)
 rw[Nat.mul_div_cancel' (Nat.gcd_dvd_left n d),Nat.mul_div_cancel' (Nat.gcd_dvd_right n d)]at this
 have X:zJ n d*zJ (n / zJ n d) (d / zJ n d)=zJ n d*1:=Z
 exact xC (zO h) X
theorem Tu(neg:Bool)(n d:Nat):XH (XH neg n d).1 (nv (XH neg n d).2.1) (nv (XH neg n d).2.2.1)=XH neg n d:=by
 by_cases h:n=0\/d=0
 ·have e:XH neg n d=(false,[],[1],()):=by unfold XH; rw[if_pos h]
  rw[e]; rfl
 ·have e:XH neg n d=(neg,vU (n / zJ n d),vU (d / zJ n d),()):=by unfold XH; rw[if_neg h]
  rw[e]
  have hn:n≠0:=λz=>h (.inl z)
  have V:d≠0:=λz=>h (.inr z)
  have hg:zJ n d≠0:=λz=>hn (Nat.gcd_eq_zero_iff.1 z).1
  have h1:n / zJ n d≠0:=Nat.div_ne_zero_iff.2 ⟨hg,xI d (zO hn)⟩
  have X:d / zJ n d≠0:=Nat.div_ne_zero_iff.2 ⟨hg,Nat.gcd_le_right n (zO V)⟩
  simp only[ju]
  unfold XH
  rw[if_neg (wa),z10 n d hg,Nat.div_one,Nat.div_one]
def norm(a:Rat):Rat:=XH a.1 (nv a.2.1) (nv a.2.2.1)
theorem zeh(n k:Nat)(h:(vU n).length<=k):(pr n).length<=18*k+1:=by
 unfold pr
 split
 ·simp
 ·obtain⟨z,hz⟩:=z0r n
  have h1:=CB n k (uL.1 h)
  have X:=congrArg List.length hz
  rw[List.length_append]at X
  rw[z0K]
  simp only[jb,List.length_map,List.length_reverse]
  omega
end Go.AM.Lf
namespace Go.AM
namespace T
variable {α β σ ρ:Type}
theorem mS{t:T α}{Q:α->Prop}:t.wp Q↔∃ a,t.run=some a/\Q a:=⟨λh=>by obtain⟨a,h1,X⟩:=IG h; exact⟨a,yT.2 h1,X⟩,λ⟨a,h1,X⟩=>KE (yT.1 h1) X⟩
theorem bB{t:T α}{a:α}{Q:α->Prop}(h:t.run=some a)(k:Q a):t.wp Q:=mS.2 ⟨a,h,k⟩
theorem ze{a:α}{Q:α->Prop}(h:Q a):(ret a).wp Q:=h
theorem zf{b:Bool}{t e:T α}{Q:α->Prop}(h1:b=true->t.wp Q)(X:b=false->e.wp Q):(ite b t e).wp Q:=⟨h1,X⟩
theorem vy{b:Bool}{t e:T α}{Q:α->Prop}(h:b=true)(k:t.wp Q):(ite b t e).wp Q:=by subst h; exact⟨λ_=>k,nofun⟩
theorem wk{b:Bool}{t e:T α}{Q:α->Prop}(h:b=false)(k:e.wp Q):(ite b t e).wp Q:=by subst h; exact⟨nofun,λ_=>k⟩
theorem zj{p:Prop}{t:T α}{Q:α->Prop}(h:p)(k:t.wp Q):(zl p t).wp Q:=⟨h,k⟩
theorem qq{A:Type}{i:Int}{l:List A}{t:T α}{Q:α->Prop}(h:0<=i/\i<(l.length:Int))(k:t.wp Q):(oI i l t).wp Q:=⟨h,k⟩
theorem z8{A:Type}{l:List A}{t:T α}{Q:α->Prop}(k:t.wp Q):(R l t).wp Q:=⟨rfl,k⟩
theorem zc{A:Type}{l:List A}{t:T α}{Q:α->Prop}(k:t.wp Q):(oC l t).wp Q:=⟨⟨rfl,rfl,rfl⟩,k⟩
theorem uH{a b:Nat}{t:T α}{Q:α->Prop}(h:a=b)(k:t.wp Q):(oM a b t).wp Q:=⟨⟨h,rfl,h⟩,h,k⟩
theorem vX{A:Type}{l:List A}{k:Nat}{t:T α}{Q:α->Prop}(h:(l.length+1)*k<=140737488355328)(w:t.wp Q):(oA l k t).wp Q:=⟨⟨rfl,rfl,rfl,h⟩,w⟩
theorem vq{a b:zo}{t:T α}{Q:α->Prop}(h:a.length+b.length<=4611686018427387904)(k:t.wp Q):(oK a b t).wp Q:=⟨h,k⟩
theorem xf{t:T α}{f:α->T β}{Q:β->Prop}(h:t.wp λa=>(f a).wp Q):(t.bind f).wp Q:=by
 obtain⟨a,h1,X⟩:=mS.1 h
 obtain⟨b,X,h3⟩:=mS.1 X
 exact bB ((zq h1 f).trans X) h3
theorem xv{t:T α}{P Q:α->Prop}(h:t.wp P)(k:∀ a,P a->Q a):t.wp Q:=by
 obtain⟨a,h1,X⟩:=mS.1 h
 exact bB h1 (k a X)
theorem ug{r:σ->T (σ⊕ρ)}{Q:ρ->Prop}(zC:σ->Prop)(μ:σ->Nat){s:σ}(hs:zC s)
  (h:∀ s,zC s->(r s).wp λz=>match z with | .inl s'=>zC s'/\μ s'<μ s | .inr y=>Q y):(loop r s).wp Q:=by
 generalize hm:μ s=m
 induction m using zR generalizing s with
 | _ m ih =>
  obtain⟨z,h1,X⟩:=mS.1 (h s hs)
  cases z with
  | inl s' =>
   obtain⟨a,h3,h4⟩:=mS.1 (ih (μ s') (by have:=X.2; omega) X.1 rfl)
   exact bB ((Zm h1).trans h3) h4
  | inr y=>exact bB (fX h1) X
theorem vY{f:α->T σ}{g:β->T σ}{z:α⊕β}{Q:σ->Prop}(h1:∀ a,z=.inl a->(f a).wp Q)(X:∀ b,z=.inr b->(g b).wp Q):(xQ f g z).wp Q:=by
 cases z with
 | inl a=>exact h1 a rfl
 | inr b=>exact X b rfl
def le(t t':T α):Prop:=∀ v,t.leads v->t'.leads v
theorem le_rfl{t:T α}:le t t:=λ_ h=>h
theorem z7A{t t':T α}{f f':α->T β}(h:le t t')(k:∀ a,le (f a) (f' a)):le (t.bind f) (t'.bind f'):=λv hv=>by
 obtain⟨a,h1,X⟩:=zg.1 hv
 exact zg.2 ⟨a,h a h1,k a v X⟩
theorem zde{c:Bool}{t t' e e':T α}(h:le t t')(k:le e e'):le (ite c t e) (ite c t' e'):=λv hv=>hv.imp (λx=>⟨x.1,h v x.2⟩) λx=>⟨x.1,k v x.2⟩
theorem zdf{p:Prop}{t t':T α}(h:le t t'):le (zl p t) (zl p t'):=λv hv=>⟨hv.1,h v hv.2⟩
theorem z7C{r r':σ->T (σ⊕ρ)}{s:σ}(h:∀ s,le (r s) (r' s)):le (loop r s) (loop r' s):=λv hv=>by
 obtain⟨n,hn⟩:=(fE _).1 hv
 refine(fE _).2 ⟨n,?_⟩
 clear hv
 induction hn with
 | done k=>exact .done (h _ _ k)
 | step k _ ih=>exact .step (h _ _ k) ih
theorem z7B{f f':α->T σ}{g g':β->T σ}{z:α⊕β}(h:∀ a,le (f a) (f' a))(k:∀ b,le (g b) (g' b)):le (xQ f g z) (xQ f' g' z):=by
 cases z with
 | inl a=>exact h a
 | inr b=>exact k b
theorem zdd{b b':(σ->T ρ)->σ->T ρ}(h:∀ F F',(∀ y,le (F y) (F' y))->∀ x,le (b F x) (b' F' x))(x:σ):le (fix b x) (fix b' x):=λv hv=>by
 have key:∀ n x,le (WM b n x) (WM b' n x):=by
  intro n
  induction n with
  | zero=>exact λ_=>le_rfl
  | succ n ih=>exact h _ _ ih
 obtain⟨n,hn⟩:=(mF b).1 hv
 exact(mF b').2 ⟨n,λm hm=>key m x v (hn m hm)⟩
theorem sR{b:(σ->T ρ)->σ->T ρ}(zC:σ->Prop)(μ:σ->Nat)(Q:σ->ρ->Prop)(hm:∀ g g',(∀ y,le (g y) (g' y))->∀ x,le (b g x) (b g' x))
  (h:∀ x,zC x->∀ g:σ->T ρ,(∀ y,zC y->μ y<μ x->(g y).wp (Q y))->(b g x).wp (Q x)) {x:σ} (U:zC x):(fix b x).wp (Q x):=by
 have up:∀ n x,le (WM b n x) (WM b (n+1) x):=by
  intro n
  induction n with
  | zero=>exact λ_ _ h=>h.elim
  | succ n ih=>exact hm _ _ ih
 have ups:∀ n m,n<=m->∀ x,le (WM b n x) (WM b m x):=by
  intro n m hnm
  induction hnm with
  | refl=>exact λ_=>le_rfl
  | step _ ih=>exact λx v hv=>up _ x v (ih x v hv)
 have key:∀ n x,zC x->μ x<n->(WM b n x).wp (Q x):=by
  intro n
  induction n with
  | zero=>intro x _ h; omega
  | succ n ih=>exact λx U hn=>h x U _ λy hy wO=>ih y hy (Z)
 obtain⟨a,h1,X⟩:=IG (key _ x U (Nat.lt_succ_self _))
 exact KE ((mF b).2 ⟨_,λm hm=>ups _ m hm x a h1⟩) X
theorem VT{t:T α}{Q:α->Prop}{a:α}(h:t.wp Q)(k:t.run=some a):Q a:=by
 obtain⟨b,h1,X⟩:=mS.1 h
 cases h1.symm.trans k
 exact X
class Sp (t:T α) (pre:outParam Prop) (post:outParam (α->Prop)):Prop where sp:pre->t.wp post
theorem za{t:T α}{f:α->T β}{pre:Prop}{post:α->Prop}{Q:β->Prop}[s:Sp t pre post](h:pre)(k:∀ a,post a->(f a).wp Q):(t.bind f).wp Q :=
 xf (xv (s.sp h) k)
theorem vG{t:T α}{pre:Prop}{post:α->Prop}{Q:α->Prop}[s:Sp t pre post](h:pre)(k:∀ a,post a->Q a):t.wp Q:=xv (s.sp h) k
end T
open PL Lf
theorem ja(x:Int):ql x=(x+9223372036854775808) % 18446744073709551616-9223372036854775808:=IntKind.wrap_i64 x
theorem fW{a:List Int}(h:qy a)(i:Nat)(x:Int):qy (a.set i (ba x)):=BE h i (by rw[ZC]; omega) (by rw[ZC]; omega)
theorem ym{α:Type}(l:List α):xO 0 (List.take (0+l.length) l)=l:=qu
theorem Za{k:IntKind}:zb (.int k)=0:=rfl
namespace T
theorem go{p:Prop} (h:p:=by
 intros
 repeat' (with_reducible first
  | refine T.ze ?_
  | refine T.zf (λ_ => ?_) (λ_ => ?_)
  | refine T.z8 ?_
  | refine T.zc ?_
  | refine T.uH ?_ ?_
  | refine T.qq ?_ ?_
  | refine T.vX ?_ ?_
  | refine T.vq ?_ ?_
  | refine T.zj ?_ ?_
  | refine T.vY (λ_ _ => ?_) (λ_ _ => ?_)
  | refine T.za ?_ (λ_ _ => ?_)
  | refine T.vG ?_ (λ_ _ => ?_)
  | refine T.xf ?_
  | dsimp only)
 all_goals grind [xb,uT,eY,jJ,Xb,ja,fW,vT,vL,bq,ym,fV,Za,List.length_set,List.take_length]):p:=h
theorem mono{p:Prop} (h:p:=by
 intros
 repeat' (with_reducible first
  | exact le_rfl
  | apply_assumption
  | refine z7A ?_ (λ_ => ?_)
  | refine zde ?_ ?_
  | refine zdf ?_
  | refine z7C (λ_ => ?_)
  | refine z7B (λ_ => ?_) (λ_ => ?_)
  | refine zdd (λ_ _ _ _ => ?_) _
  | dsimp only[oI,R,oC,oM,oA,oK])):p:=h
theorem lp{σ ρ:Type}{r:σ->T (σ⊕ρ)}{Q:ρ->Prop}(zC:σ->Prop)(μ:σ->Nat){s:σ}(hs:zC s:=by grind)
  (h:∀ s,zC s->(r s).wp λz=>match z with | .inl s'=>zC s'/\μ s'<μ s | .inr y=>Q y:=by
 intros
 repeat' (with_reducible first
  | refine T.ze ?_
  | refine T.zf (λ_ => ?_) (λ_ => ?_)
  | refine T.z8 ?_
  | refine T.zc ?_
  | refine T.uH ?_ ?_
  | refine T.qq ?_ ?_
  | refine T.vX ?_ ?_
  | refine T.vq ?_ ?_
  | refine T.zj ?_ ?_
  | refine T.vY (λ_ _ => ?_) (λ_ _ => ?_)
  | refine T.za ?_ (λ_ _ => ?_)
  | refine T.vG ?_ (λ_ _ => ?_)
  | refine T.xf ?_
  | dsimp only)
 all_goals grind [xb,uT,eY,jJ,Xb,ja,fW,vT,vL,bq,ym,fV,Za,List.length_set,List.take_length]):(loop r s).wp Q:=T.ug zC μ hs h
end T
open T
instance (a:List Int):Sp (ue a) (qy a/\a.length<=4000000000) (λr=>qy r/\r.length<=a.length):=⟨λh=>bB (cf a h.1 h.2) ⟨wM _,vQ h.1⟩⟩
end Go.AM
namespace Go.AM
open T PL Lf
def rg(a:Lf.Rat):Prop:=qy a.2.1/\qy a.2.2.1
def rl(a:Lf.Rat):Nat:=max a.2.1.length a.2.2.1.length
theorem Yr(x:Int):wm x=x % 18446744073709551616:=IH x
def nm(a:Lf.Rat):Prop:=norm a=a
instance (d:List Int) (a:Int) (v:Int) (x3:List Int) (x4 x5:Int) (x6:List Int) (s:Int×Int×List Int):Sp (Vw d a v x3 x4 x5 x6 (x6.length:Int) s) (s.2.1=0/\qy s.2.2/\0<=a/\a+x6.length<=s.2.2.length/\s.2.2.length<=4000000000) (λr=>qy r.2/\r.2.length=s.2.2.length):=⟨λh=>by
 unfold Vw Vy
 exact lp (λ(_,i,c)=>0<=i/\i<=x6.length/\qy c/\c.length=s.2.2.length) (λ(_,i,_)=>(x6.length-i).toNat)⟩
instance (d x:List Int) (s:Int×List Int):Sp (Vv d x (x.length:Int) s) (s.1=0/\qy s.2/\s.2.length=d.length+x.length/\s.2.length<=2000000000) (λr=>qy r/\r.length=s.2.length):=⟨λh=>by
 unfold Vv Vx
 exact lp (λ(i,c)=>0<=i/\i<=x.length/\qy c/\c.length=s.2.length) (λ(i,_)=>(x.length-i).toNat)⟩
instance (a b:List Int):Sp (iZ a b) (qy a/\qy b/\a.length+b.length<=1000000000) (λr=>qy r/\r.length<=a.length+b.length):=⟨λh=>by unfold iZ; exact go⟩
instance (a b x:List Int) (s:Int×Int×List Int):Sp (Vt a b x (x.length:Int) s) (s.2.1=0/\qy s.2.2/\s.2.2.length=x.length+1/\s.2.2.length<=2000000000) (λr=>qy r.2/\r.2.length=s.2.2.length):=⟨λh=>by
 unfold Vt Vu
 exact lp (λ(_,i,c)=>0<=i/\i<=x.length/\qy c/\c.length=s.2.2.length) (λ(_,i,_)=>(x.length-i).toNat)⟩
instance (a b:List Int):Sp (UJ a b) (qy a/\qy b/\a.length+b.length<=1000000000) (λr=>qy r/\r.length<=max a.length b.length+1):=⟨λh=>by unfold UJ; exact go⟩
instance (a b:List Int):Sp (tw a b) (qy a/\qy b/\a.length+b.length<=1000000000) (λr=>r=EL (nv a) (nv b)):=⟨λh=>bB (Kl a b h.1 h.2.1 (Z) (Z)) rfl⟩
instance (b x:List Int) (s:Int×Int×List Int):Sp (VA b x (x.length:Int) s) (s.2.1=0/\qy s.2.2/\s.2.2.length=x.length/\s.2.2.length<=2000000000) (λr=>qy r/\r.length=s.2.2.length):=⟨λh=>by
 unfold VA VB yj
 exact lp (λ(_,i,c)=>0<=i/\i<=x.length/\qy c/\c.length=s.2.2.length) (λ(_,i,_)=>(x.length-i).toNat)⟩
instance (a b:List Int):Sp (UM a b) (qy a/\qy b/\a.length+b.length<=1000000000) (λr=>qy r.1/\r.1.length<=a.length):=⟨λh=>by unfold UM; exact go⟩
instance (a:Int):Sp (l8 a) (0<=a/\a<18446744073709551616) (λr=>qy r/\r.length<=2/\r=vU a.toNat):=⟨λh=>by
 obtain⟨n,rfl⟩:=qO h.1
 exact bB (Vz n (Z)) ⟨wM _,uL.2 (Z),rfl⟩⟩
instance (a b:List Int):Sp (Wl a b) (qy a/\qy b/\a.length+b.length<=100000000) (λr=>r=vU (zJ (nv a) (nv b))/\qy r/\r.length<=a.length+b.length):=⟨λh=>bB (Km a b h.1 h.2.1 (Z) (Z)) ⟨rfl,wM _,by
 have h1:=vQ h.1
 have X:=vQ h.2.1
 by_cases e:nv a=0
 ·rw[e,Nat.gcd_zero_left]; omega
 ·have:=eB (xI (nv b) (zO e)); omega⟩⟩
def cl(s:zo):Prop:=∀ b∈s,b.toNat≠10
instance (s:zo):Decidable (cl s):=by unfold cl; infer_instance
theorem yu{a b:zo}:cl (cat a b)↔cl a/\cl b:=List.forall_mem_append
theorem YG{a:zo}(h:cl a)(i j:Int):cl (iv i j a):=λb J=>h b (xN (xM J))
theorem Jr{s:zo}(h:cl s):∀ n,cl (HX s n)
 | 0=>nofun
 | n+1=>yu.2 ⟨h,Jr h n⟩
theorem zcf(n:Nat):cl (dgz n):=by
 induction n using zR with
 | _ n ih =>
  intro b J
  rw[dgz]at J
  split at J
  ·cases J
  ·rcases zS.1 J with h | h
   ·exact ih _ (Z) b h
   ·rw[zV.1 h]; unfold dgt; rw[UInt8.toNat_ofNat']; omega
theorem zm8(n:Nat):cl (pr n):=by unfold pr; split; exact(qj); exact zcf n
instance (a:List Int):Sp (mJ a) (qy a/\a.length<=1000000) (λr=>r.length<=18*a.length+1/\cl r):=⟨λh=>bB (HQ a h.1 h.2) ⟨zeh _ _ (vQ h.1),zm8 _⟩⟩
instance (a b:List Int):Sp (dQ a b) (qy a/\qy b/\a.length+b.length<=100000000) (λr=>qy r.1/\qy r.2.1/\r.1.length<=a.length/\r.2.1.length<=a.length):=⟨λh=>bB (iY a b h.1 h.2.1 (Z) (Z)) (by
 have h1:=vQ h.1
 split
 ·exact⟨vL,vL,xE _,xE _⟩
 ·exact⟨wM _,wM _,zN (eB (qM _ _)) h1,zN (eB (Nat.mod_le _ _)) h1⟩)⟩
instance (g:Bool) (n d:List Int):Sp (sr g n d) (qy n/\qy d/\n.length+d.length<=100000000) (λr=>rg r/\rl r<=max 1 (max n.length d.length)/\nm r/\r=XH g (nv n) (nv d)):=⟨λh=>bB (MG g n d h.1 h.2.1 (Z) (Z)) (by
 have:=z9L g (nv n) (nv d) (max 1 (max n.length d.length)) (Z) (by have:=vQ h.1; omega) (by have:=vQ h.2.1; omega)
 exact⟨⟨this.1,this.2.1⟩,by unfold rl; have:=this.2.2; omega,Tu _ _ _,rfl⟩)⟩
instance (a:Lf.Rat):Sp (vJ a) (rg a/\rl a<=50000000) (λr=>rg r/\rl r<=max 1 (rl a)/\nm r/\r=norm a):=⟨λh=>by unfold rg rl at h; unfold vJ norm; refine za (wa) λr h=>h⟩
theorem gor{p:Prop} (h:p:=by
 intros
 repeat' (with_reducible first
  | refine T.ze ?_
  | refine T.zf (λ_ => ?_) (λ_ => ?_)
  | refine T.z8 ?_
  | refine T.zc ?_
  | refine T.uH ?_ ?_
  | refine T.qq ?_ ?_
  | refine T.vX ?_ ?_
  | refine T.vq ?_ ?_
  | refine T.zj ?_ ?_
  | refine T.vY (λ_ _ => ?_) (λ_ _ => ?_)
  | refine T.za ?_ (λ_ _ => ?_)
  | refine T.vG ?_ (λ_ _ => ?_)
  | refine T.xf ?_
  | dsimp only)
 all_goals grind [xb,uT,eY,jJ,Xb,ja,fW,vT,vL,bq,ym,fV,Za,List.length_set,List.take_length,rg,rl,Yr]):p:=h
instance (a:Lf.Rat):Sp (cS a) (rg a/\rl a<=50000000) (λr=>r=false->rl (norm a)<=16):=⟨λh=>by unfold cS; exact gor⟩
instance (a b:Lf.Rat):Sp (pG a b) (rg a/\rg b/\rl a+rl b<=20000000) (λr=>rg r/\rl r<=rl a+rl b+2/\nm r):=⟨λh=>by unfold pG; exact gor⟩
instance (a b:Lf.Rat):Sp (pF a b) (rg a/\rg b/\rl a+rl b<=20000000) (λr=>rg r/\rl r<=rl a+rl b+3/\nm r):=⟨λh=>by unfold pF; exact gor⟩
instance (a:Lf.Rat):Sp (Qn a) (rg a/\rl a<=50000000) (λr=>rg r/\rl r<=max 1 (rl a)):=⟨λh=>by unfold Qn VK; exact gor⟩
instance (a b:Lf.Rat):Sp (J3 a b) (rg a/\rg b/\rl a+rl b<=10000000) (λr=>rg r/\rl r<=rl a+rl b+4/\nm r):=⟨λh=>by unfold J3; exact gor⟩
instance (a:Lf.Rat):Sp (lA a) (rg a/\rl a<=50000000) (λ_=>True):=⟨λh=>by unfold lA; exact gor⟩
instance (a b:Lf.Rat):Sp (Yk a b) (rg a/\rg b/\rl a+rl b<=10000000) (λ_=>True):=⟨λh=>by unfold Yk; exact gor⟩
instance (a:Int):Sp (gz a) (-9223372036854775808<=a/\a<=9223372036854775807) (λr=>rg r/\rl r<=2):=⟨λh=>by unfold gz; exact gor⟩
instance (a b:Lf.Rat):Sp (tD a b) (rg a/\rg b/\rl a+rl b<=10000000) (λr=>rg r.1/\rl r.1<=rl a+rl b+4/\(r.2=true->nm r.1)):=⟨λh=>by unfold tD; exact gor⟩
end Go.AM
namespace Go.AM
open T PL Lf
theorem N7(x:Int):wu8 x=x % 256:=IntKind.wrap_u8 x
theorem sN(a:zo)(h:xw a []=false):1<=a.length:=by
 cases a with
 | nil=>exact absurd h (qj)
 | cons=>simp
theorem dO(a b:zo):(cat a b).length=a.length+b.length:=List.length_append
theorem SV(l h:Int)(a:zo):(iv l h a).length<=a.length:=by unfold iv; simp; omega
theorem z3a(a p:zo):(DV a p).length<=a.length:=by unfold DV; split<;>simp
theorem ze1(n:Nat):∀ s:zo,(HX s n).length=s.length*n:=by
 induction n with
 | zero=>simp[HX]
 | succ n ih=>intro s; rw[HX,List.length_append,ih,Nat.mul_succ]; omega
theorem O2(l h:Int)(a:zo)(h0:0<=l)(h1:l<=h)(X:h<=a.length):((iv l h a).length:Int)=h-l:=by unfold iv; simp; omega
theorem WL(x:Lf.Rat):(x.1,x.2.1,x.2.2.1,())=x:=rfl
theorem Vj(e:Expr):Expr.mk e.kind ((Expr.num e).1,(Expr.num e).2.1,(Expr.num e).2.2.1,()) e.name e.kids=e:=by cases e; rfl
theorem Jp(s:zo)(i:Int):0<=vz s i/\vz s i<256:=by unfold vz; have:=(s.getD i.toNat 0).toNat_lt; omega
theorem lR{p:Prop} (h:p:=by
 intros
 repeat' (with_reducible first
  | refine T.ze ?_
  | refine T.zf (λ_ => ?_) (λ_ => ?_)
  | refine T.z8 ?_
  | refine T.zc ?_
  | refine T.uH ?_ ?_
  | refine T.qq ?_ ?_
  | refine T.vX ?_ ?_
  | refine T.vq ?_ ?_
  | refine T.zj ?_ ?_
  | refine T.vY (λ_ _ => ?_) (λ_ _ => ?_)
  | refine T.za ?_ (λ_ _ => ?_)
  | refine T.vG ?_ (λ_ _ => ?_)
  | refine T.xf ?_
  | dsimp only)
 all_goals grind [xb,uT,eY,jJ,Xb,ja,fW,vT,vL,bq,ym,fV,Za,List.length_set,List.take_length,rg,rl,Yr,N7,dO,SV,z3a,ze1,O2,Jp,xw,lU,sN]):p:=h
theorem lps{σ ρ:Type}{r:σ->T (σ⊕ρ)}{Q:ρ->Prop}(zC:σ->Prop)(μ:σ->Nat){s:σ}(hs:zC s:=by grind [xb,uT,eY,jJ,Xb,ja,fW,vT,vL,bq,ym,fV,Za,List.length_set,List.take_length,rg,rl,Yr,N7,dO,SV,z3a,ze1,O2,Jp,xw,lU,sN])
  (h:∀ s,zC s->(r s).wp λz=>match z with | .inl s'=>zC s'/\μ s'<μ s | .inr y=>Q y:=by
 intros
 repeat' (with_reducible first
  | refine T.ze ?_
  | refine T.zf (λ_ => ?_) (λ_ => ?_)
  | refine T.z8 ?_
  | refine T.zc ?_
  | refine T.uH ?_ ?_
  | refine T.qq ?_ ?_
  | refine T.vX ?_ ?_
  | refine T.vq ?_ ?_
  | refine T.zj ?_ ?_
  | refine T.vY (λ_ _ => ?_) (λ_ _ => ?_)
  | refine T.za ?_ (λ_ _ => ?_)
  | refine T.vG ?_ (λ_ _ => ?_)
  | refine T.xf ?_
  | dsimp only)
 all_goals grind [xb,uT,eY,jJ,Xb,ja,fW,vT,vL,bq,ym,fV,Za,List.length_set,List.take_length,rg,rl,Yr,N7,dO,SV,z3a,ze1,O2,Jp,xw,lU,sN]):(loop r s).wp Q:=T.ug zC μ hs h
instance (c:Int) (a:zo):Sp (bz c a) (a.length<=1000000000) (λr=>r.length<=a.length):=⟨λh=>by
 unfold bz bA
 exact lps (λs=>s.length<=a.length) (λs=>s.length)⟩
instance (c:Int) (a:zo):Sp (ca c a) (a.length<=1000000000) (λr=>r.length<=a.length):=⟨λh=>by
 unfold ca cd
 exact lps (λs=>s.length<=a.length) (λs=>s.length)⟩
instance (c:den (nu .bool 256)) (a:zo):Sp (jR c a) (a.length<=1000000000) (λr=>r.length<=a.length):=⟨λh=>by
 unfold jR uG vj
 exact lps (λs=>s.length<=a.length) (λs=>s.length)⟩
instance (c:den (nu .bool 256)) (a:zo):Sp (kH c a) (a.length<=1000000000) (λr=>r.length<=a.length):=⟨λh=>by
 unfold kH j4 vj
 exact lps (λs=>s.length<=a.length) (λs=>s.length)⟩
def z3J(a:zo):Bool:=decide (a.length<=1000)&&a.all λx=>decide (x.toNat<128)
theorem z3K:z3J [48,49,50,51,52,53,54,55,56,57]=true:=qj
instance (b a:zo):Sp (cJ b a) (b.length<=1000000000/\z3J a=true) (λr=>r.length<=b.length):=⟨λh=>by
 unfold cJ strings_trimRightByte strings_trimLeftByte strings_makeASCIISet jE jW
 simp only[z3J,Bool.and_eq_true,decide_eq_true_eq,List.all_eq_true]at h
 exact lR⟩
instance (a:zo) (s:List Int×Int):Sp (Qd a (a.length:Int) s) (a.length<=100000/\s=([],0)) (λr=>qy r/\r.length<=2*a.length+1):=⟨λh=>by
 unfold Qd Qe
 exact lps (λ(l,i)=>qy l/\0<=i/\i<=a.length/\(l.length:Int)<=2*i+1) (λ(_,i)=>(a.length-i).toNat)⟩
instance (a:zo):Sp (mI a) (a.length<=1000000000) (λr=>qy r.1/\r.1.length<=801):=⟨λh=>by have:=z3K; unfold mI; exact lR⟩
instance (n:Int) (s:List Int×Int):Sp (Vg n s) (n<=100000/\qy s.1/\s.1.length<=2/\s.2=0) (λr=>qy r/\r.length<=2+2*n.toNat):=⟨λh=>by
 unfold Vg Vh
 exact lps (λ(l,i)=>qy l/\0<=i/\(i<=n\/i=0)/\(l.length:Int)<=2+2*i) (λ(_,i)=>(n-i).toNat)⟩
instance (n:Int):Sp (Uf n) (n<=100000) (λr=>qy r/\r.length<=2+2*n.toNat):=⟨λh=>by unfold Uf; exact lR⟩
instance (a:zo) (n:Int):Sp (tc a n) (0<=n/\n<=100000/\a.length<=1000000000) (λr=>r.length<=a.length+n.toNat+2/\(cl a->cl r)):=⟨λh=>by have c0 := @yu; have c1 := @YG; have c2 := @Jr; have c3:cl [45]/\cl [46]/\cl [47]/\cl [48]/\cl []:=(qj); unfold tc strings_Repeat; exact lR⟩
instance (a:Lf.Rat):Sp (Xc a) True (λr=>r.length<=1/\cl r):=⟨λ_=>by have c0 := @yu; have c1 := @YG; have c2 := @Jr; have c3:cl [45]/\cl [46]/\cl [47]/\cl [48]/\cl []:=(qj); unfold Xc; exact lR⟩
instance (a:Lf.Rat):Sp (gL a) (rg a/\rl a<=500000) (λr=>r.length<=40*rl a+50/\cl r):=⟨λh=>by have c0 := @yu; have c1 := @YG; have c2 := @Jr; have c3:cl [45]/\cl [46]/\cl [47]/\cl [48]/\cl []:=(qj); unfold gL; exact lR⟩
instance (a b:zo):Sp (strings_Cut a b) (a.length<=1000000000) (λr=>r.1.length+r.2.1.length<=a.length):=⟨λh=>by
 unfold strings_Cut Ue
 exact T.zj (Z) (T.ze (by split<;>simp<;>omega))⟩
instance (a b:zo):Sp (strings_CutPrefix a b) True (λr=>r.1.length<=a.length):=⟨λh=>by unfold strings_CutPrefix; exact lR⟩
instance (a:zo):Sp (pQ a) True (λr=>rg r.1/\rl r.1<=1700):=⟨λh=>by unfold pQ; exact lR⟩
instance (s:Int×Lf.Rat):Sp (ZN s) (s.1=0/\rg s.2/\rl s.2<=5000) (λr=>match r with | .inl _=>True | .inr z=>z.1.length<=18*rl s.2+2280/\cl z.1):=⟨λh=>by
 have c0 := @yu; have c1 := @YG; have c2 := @Jr; have c3:cl [45]/\cl [46]/\cl [47]/\cl [48]/\cl []:=qj
 unfold ZN ZO
 exact lps (λ(i,a)=>0<=i/\i<=61/\a=s.2) (λ(i,_)=>(61-i).toNat)⟩
instance (a:Lf.Rat):Sp (Z8 a) (rg a/\rl a<=5000) (λr=>r.1.length<=18*rl a+2300/\cl r.1):=⟨λh=>by have c0 := @yu; have c1 := @YG; have c2 := @Jr; have c3:cl [45]/\cl [46]/\cl [47]/\cl [48]/\cl []:=(qj); unfold Z8; exact lR⟩
theorem z6h(a:Lf.Rat)(h:rg a)(h1:Jb a.2.1)(X:Jb a.2.2.1)(h3:a.2.2.1≠[])(h4:a.1=true->a.2.1≠[])(h5:zJ (nv a.2.1) (nv a.2.2.1)=1):nm a:=by
 unfold nm norm XH
 obtain⟨b,n,d,u⟩:=a
 by_cases hn:nv n=0
 ·have:n=[]:=by rcases Decidable.em (n=[])with e | e; exact e; exact absurd hn (Mp h.1 h1 e)
  subst this
  simp at h5 h4 ⊢
  have e:vU (nv d)=d:=DB h.2 X
  rw[h5,PT]at e
  simp[h4,<- e]
 ·rw[if_neg (by have:=Mp h.2 X h3; simp[hn,this])]
  simp only[h5,Nat.div_one]
  rw[DB h.1 h1,DB h.2 X]
instance (a:List Int):Sp (Qc a) (a.length<=1000000000) (λr=>r=true->Jb a):=⟨λh=>by
 unfold Qc
 refine T.zj (λh1 => ?_) (T.ze λX x U => ?_)
 ·rw[qv (Z) (Z)]; grind [xb]
 ·obtain⟨l,rfl⟩:=List.getLast?_eq_some_iff.1 U
  rw[qv (Z) (Z),show zb (.int .u32)=(0:Int)from rfl,I2]at X
  have:(l.length:Int)+1=0\/x≠0:=by simpa using X
  omega⟩
instance (a:Lf.Rat):Sp (tW a) (rg a/\rl a<=5000000) (λr=>r=true->nm a):=⟨λh=>by
 have:¬ Jb a.2.1\/¬ Jb a.2.2.1\/a.2.2.1.length=0\/(a.1=true/\a.2.1.length=0)\/zJ (nv a.2.1) (nv a.2.2.1)≠1\/nm a:=by
  have:=z6h a h.1
  simp only[xG]; grind
 have e:∀ g,EL (nv (vU g)) (nv (vU (Int.toNat 1)))=0->g=1:=λg h=>by rw[ju,ju]at h; unfold EL at h; grind
 unfold tW
 exact lR⟩
end Go.AM
namespace Go.AM
open T PL Lf
def ixR{α:Type}(d0:α)(b:List α)(d:α->T Bool)(e:Int):Int->T (Int⊕(Unit⊕Int))
 | a=>.ite (decide (a<e)) (oI a b<|T.bind (d (nth b a d0)) λc=>.ite c (.ret (.inr (.inr a))) (.ret (.inl (ql (a+1))))) (.ret (.inr (.inl ())))
theorem xo{α:Type}{l:List α}{i:Int}{d:α}(h0:0<=i)(h:i<l.length):nth l i d∈l:=by
 unfold nth
 rw[zQ,List.getElem?_eq_getElem (Z)]
 exact List.getElem_mem _
theorem UG{α:Type}{l:List α}{x d:α}(h:x∈l):∃ i:Int,0<=i/\i<l.length/\nth l i d=x:=by
 obtain⟨k,hk,rfl⟩:=List.getElem_of_mem h
 exact⟨k,Z,Z,by unfold nth; simp[hk]⟩
theorem zi3{α:Type}(d0:α)(l:List α)(c:α->T Bool)(B:l.length<=1000000000000)(hc:∀ x∈l,(c x).wp λ_=>True) :
  (T.loop (ixR d0 l c l.length) 0).wp λr=>match r with | .inl _=>∀ x∈l,(c x).run=some false | .inr i=>0<=i/\i<l.length/\(c (nth l i d0)).run=some true:=by
 refine T.ug (λi:Int=>0<=i/\i<=l.length/\∀ j:Int,0<=j->j<i->(c (nth l j d0)).run=some false) (λi:Int=>(l.length-i).toNat) (wa) λi ⟨h0,h1,X⟩ => ?_
 refine T.zf (λh => ?_) λh => ?_
 ·have h:=uY h
  refine T.qq ⟨h0,h⟩ (T.xf ?_)
  obtain⟨b,J,_⟩:=T.mS.1 (hc _ (xo (d:=d0) h0 h))
  refine T.bB J (T.zf (λe=>T.ze ⟨h0,h,e▸J⟩) λe=>T.ze ?_)
  rw[qv (Z) (Z)]
  refine⟨⟨Z,Z,λj hj hji => ?_⟩,Z⟩
  by_cases e':j=i
  ·subst e'; exact e▸J
  ·exact X j hj (Z)
 ·refine T.ze λx U => ?_
  obtain⟨j,hj,NQ,rfl⟩:=UG (d:=d0) U
  have h:=hZ h
  exact X j hj (Z)
def Ixp{α:Type}(l:List α)(c:α->T Bool)(d0:α)(r:Int):Prop:=(r = -1/\∀ x∈l,(c x).run=some false)\/(0<=r/\r<l.length/\(c (nth l r d0)).run=some true)
theorem zda{α:Type}{d0:α}{l:List α}{c:α->T Bool}(h:l.length<=1000000000000/\∀ x∈l,(c x).wp λ_=>True) :
  (T.bind (T.loop (ixR d0 l c l.length) 0)<|xQ (λ_=>T.ret (-1:Int)) λb=>T.ret b).wp (Ixp l c d0) :=
 T.xf (T.xv (zi3 d0 l c h.1 h.2) λr hr=>by
  cases r with
  | inl _=>exact .inl ⟨rfl,hr⟩
  | inr i=>exact .inr hr)
def Bb{α:Type}(l:List α)(P:α->Bool->Prop)(d0:α)(r:Int):Prop:=(r = -1/\∀ x∈l,P x false)\/(0<=r/\r<l.length/\P (nth l r d0) true)
def E7{α:Type}(l:List α)(P:α->Bool->Prop)(r:Bool):Prop:=(r=false/\∀ x∈l,P x false)\/(r=true/\∃ x∈l,P x true)
theorem ixq{α:Type}{d0:α}{l:List α}{c:α->T Bool}{p:α->Prop}{P:α->Bool->Prop}[s:∀ x,Sp (c x) (p x) (P x)](h:l.length<=1000000000000/\∀ x∈l,p x) :
  (T.bind (T.loop (ixR d0 l c l.length) 0)<|xQ (λ_=>T.ret (-1:Int)) λb=>T.ret b).wp (Bb l P d0) :=
 T.xv (zda ⟨h.1,λx U=>T.xv ((s x).sp (h.2 x U)) λ_ _=>trivial⟩) λ_ hr=>hr.imp (λ⟨e,k⟩=>⟨e,λx U=>T.VT ((s x).sp (h.2 x U)) (k x U)⟩) λ⟨h1,X,k⟩=>⟨h1,X,T.VT ((s _).sp (h.2 _ (xo h1 X))) k⟩
theorem cnq{α:Type}{d0:α}{l:List α}{P:α->Bool->Prop}{t:T Int}(k:t.wp (Bb l P d0)):(T.bind t λa=>T.ret (decide ((0:Int)<=a))).wp (E7 l P) :=
 T.xf (T.xv k λa ha=>ha.elim (λ⟨h,k⟩=>.inl ⟨decide_eq_false (Z),k⟩) λ⟨h1,X,k⟩=>.inr ⟨decide_eq_true h1,_,xo h1 X,k⟩)
instance (a:List Switch) (c:Switch->T Bool) (p:Switch->Prop) (P:Switch->Bool->Prop) [∀ x,Sp (c x) (p x) (P x)]:Sp (xm a c) (a.length<=1000000000000/\∀ x∈a,p x) (Bb a P (zb qe)):=⟨ixq⟩
instance (a:List Switch) (c:Switch->T Bool) (p:Switch->Prop) (P:Switch->Bool->Prop) [∀ x,Sp (c x) (p x) (P x)]:Sp (vK a c) (a.length<=1000000000000/\∀ x∈a,p x) (E7 a P):=⟨λh=>cnq (Sp.sp h)⟩
instance (a:List Param) (c:Param->T Bool) (p:Param->Prop) (P:Param->Bool->Prop) [∀ x,Sp (c x) (p x) (P x)]:Sp (vN a c) (a.length<=1000000000000/\∀ x∈a,p x) (Bb a P (zb qg)):=⟨ixq⟩
instance (a:List Param) (c:Param->T Bool) (p:Param->Prop) (P:Param->Bool->Prop) [∀ x,Sp (c x) (p x) (P x)]:Sp (vV a c) (a.length<=1000000000000/\∀ x∈a,p x) (E7 a P):=⟨λh=>cnq (Sp.sp h)⟩
instance (a:List cv) (c:cv->T Bool) (p:cv->Prop) (P:cv->Bool->Prop) [∀ x,Sp (c x) (p x) (P x)]:Sp (j3 a c) (a.length<=1000000000000/\∀ x∈a,p x) (Bb a P (zb xi)):=⟨ixq⟩
instance (a:List cv) (c:cv->T Bool) (p:cv->Prop) (P:cv->Bool->Prop) [∀ x,Sp (c x) (p x) (P x)]:Sp (yB a c) (a.length<=1000000000000/\∀ x∈a,p x) (E7 a P):=⟨λh=>cnq (Sp.sp h)⟩
instance (a:List cx) (c:cx->T Bool) (p:cx->Prop) (P:cx->Bool->Prop) [∀ x,Sp (c x) (p x) (P x)]:Sp (bw a c) (a.length<=1000000000000/\∀ x∈a,p x) (Bb a P (zb xn)):=⟨ixq⟩
instance (a:List cx) (c:cx->T Bool) (p:cx->Prop) (P:cx->Bool->Prop) [∀ x,Sp (c x) (p x) (P x)]:Sp (yC a c) (a.length<=1000000000000/\∀ x∈a,p x) (E7 a P):=⟨λh=>cnq (Sp.sp h)⟩
def Tk(s:zo):Prop:=s≠[]/\∀ b∈s,48<=b.toNat/\b.toNat≠58
abbrev nL(s:zo):Prop:=s.length<=24/\Tk s
abbrev wL(s:zo):Prop:=s.length<=24/\(s=[]\/Tk s)
def inN(a:zo)(n:Int):Prop:=∀ j:Int,0<=j->j<n->48<=vz a j/\vz a j≠58
theorem zec{a:zo}(h:inN a a.length)(h1:1<=a.length):Tk a:=⟨by rintro rfl; simp at h1,λb J=>by
 obtain⟨j,hj,rfl⟩:=List.getElem_of_mem J
 have:=h j (Z) (Z)
 unfold vz at this
 simp[hj]at this
 omega⟩
theorem zhY(a:zo):inN a 0:=λj h0 h1=>Z
theorem zhZ{a:zo}{n:Int}(h:inN a n)(k:48<=vz a n/\vz a n≠58):inN a (n+1):=λj h0 h1=>by
 by_cases e:j=n
 ·subst e; exact k
 ·exact h j h0 (Z)
instance (a:Int):Sp (yN a) True (λr=>r=true->97<=a/\a<=122):=⟨λ_=>by unfold yN; exact lR⟩
instance (a:Int):Sp (yy a) True (λr=>r=true->48<=a/\a≠58):=⟨λ_=>by unfold yy jt; exact lR⟩
instance (a:zo) (s:Int):Sp (ZZ a (a.length:Int) s) (s=0/\a.length<=1000000000) (λr=>match r with | .inl _=>inN a a.length | .inr b=>b=false):=⟨λh=>by
 have i0:=zhY a
 have i1 := @zhZ a
 unfold ZZ Q0
 exact lps (λ(i:Int)=>0<=i/\i<=a.length/\inN a i) (λ(i:Int)=>(a.length-i).toNat)⟩
instance (a:zo):Sp (uV a) (a.length<=1000000000) (λr=>r=true->nL a):=⟨λh=>by have i0 := @zec a; unfold uV; exact lR⟩
inductive EW(k:Nat):Expr->Prop
 | mk {kd:Int} {n:Lf.Rat} {s:zo} {l:List Expr}:rg n->rl n<=k->s.length<=k->l.length<=k->(∀ x∈l,EW k x)->EW k (.mk kd n s l)
inductive EO:Nat->Expr->Prop
 | num {n:Lf.Rat} {s:zo}:rg n->rl n<=16->EO 1 (.mk 1 n s [])
 | nam {n:Lf.Rat} {s:zo}:nL s->EO 1 (.mk 2 n s [])
 | neg {n:Lf.Rat} {s:zo} {i:Nat} {a:Expr}:EO i a->EO (i+1) (.mk 7 n s [a])
 | bin {k:Int} {n:Lf.Rat} {s:zo} {i j:Nat} {a b:Expr}:3<=k->k<=6->EO i a->EO j b->EO (i+j+1) (.mk k n s [a,b])
instance (a:Lf.Rat):Sp (Q1 a) (rg a/\rl a<=2000000) (λr=>r=true->rl a<=16):=⟨λh=>by have:nm a↔norm a=a:=Iff.rfl; unfold Q1; exact lR⟩
instance (a:Lf.Rat):Sp (nG a) (rg a/\rl a<=2000000) (λ_=>True):=⟨λh=>by unfold nG; exact lR⟩
def arity(k:Int):Nat:=if k=1\/k=2 then 0 else if k=7 then 1 else 2
instance (a:Int):Sp (We a) True (λr=>0<=r->r=arity a/\1<=a/\a<=7):=⟨λ_=>by unfold We arity; exact lR⟩
instance (e:Expr):Sp (nF e) (EW 2000000 e) (λr=>r=true->e.kids.length=arity e.kind/\1<=e.kind/\e.kind<=7/\(e.kind=1->rl e.num<=16)/\(e.kind=2->nL e.name)):=⟨λh=>by
 cases h with
 | mk h1 X h3 h4 h5 =>
  unfold nF
  simp only[Expr.kids,Expr.kind,Expr.num,Expr.name]
  exact lR⟩
end Go.AM
namespace Go.AM
open T PL Lf
inductive WS:Nat->List Expr->Prop
 | nil:WS 0 []
 | snoc {m n:Nat} {l:List Expr} {a:Expr}:WS m l->EO n a->WS (m+n) (l++[a])
theorem cU{α:Type}(l:List α)(i:Int)(d:α)(h0:0<=i)(h:i<l.length):l.take (i+1).toNat=l.take i.toNat++[nth l i d]:=by
 have:(i+1).toNat=i.toNat+1:=Z
 rw[this,qS (Z)]
 unfold nth
 simp[zQ,show i.toNat<l.length by omega]
theorem WS.inv{n:Nat}{l:List Expr}(h:WS n l):∀ (L:List Expr) (a:Expr),l=L++[a]->∃ i j,n=i+j/\WS i L/\EO j a:=by
 cases h with
 | nil=>intro L a e; simp at e
 | @snoc m n l a h1 X =>
  intro L b e
  obtain⟨h3,h4⟩:=List.append_inj' e rfl
  subst h3
  cases h4
  exact⟨m,n,rfl,h1,X⟩
theorem WS.n0{n:Nat}(h:WS n []):n=0:=by
 generalize e:([]:List Expr)=l at h
 cases h with
 | nil=>rfl
 | snoc h1 X=>simp at e
theorem EO.of{k:Int}{n:Lf.Rat}{s:zo}{l:List Expr}{m:Nat}(h:WS m l)(B:l.length=arity k)(h1:1<=k)(X:k<=7)(hn:rg n)(h3:k=1->rl n<=16)(h4:k=2->nL s):EO (m+1) (.mk k n s l):=by
 unfold arity at B
 by_cases e1:k=1
 ·subst e1
  obtain rfl:l=[]:=by simpa using B
  rw[h.n0]; exact .num hn (h3 rfl)
 by_cases e2:k=2
 ·subst e2
  obtain rfl:l=[]:=by simpa using B
  rw[h.n0]; exact .nam (h4 rfl)
 by_cases e7:k=7
 ·subst e7
  obtain⟨a,rfl⟩:=List.length_eq_one_iff.1 (by simpa using B)
  obtain⟨i,j,rfl,g1,g2⟩:=h.inv [] a rfl
  rw[g1.n0]
  simpa using EO.neg g2
 ·rw[if_neg (Z),if_neg e7]at B
  match l,B with
  | [a,b],_ =>
  obtain⟨i,j,rfl,g1,g2⟩:=h.inv [a] b rfl
  obtain⟨i',j',rfl,g3,g4⟩:=g1.inv [] a rfl
  rw[g3.n0]
  simpa using EO.bin (Z) (Z) g4 g2
instance (l:List Expr) (g:Expr->Int->Int->T (Bool×Int)) (s:(Int×Unit)×Int×Int):Sp (wB g l (l.length:Int) s)
  (l.length<=2000000/\s.2.1=0/\0<=s.1.1/\s.1.1<32/\0<=s.2.2/\s.2.2<=256/\∀ e∈l,∀ d f:Int,0<=d/\d<=32/\0<=f/\f<=256->(g e d f).wp λr => -1<=r.2/\r.2<f/\(r.1=true->0<=r.2/\EO (f-r.2).toNat e))
  (λr=>match r with | .inl d=>0<=d/\d<=s.2.2/\WS (s.2.2-d).toNat l | .inr z=>0<=z.1 /\ -1<=z.2/\z.2<=s.2.2):=⟨λh=>by
 unfold wB
 refine T.ug (λ(c,a,d)=>c.1=s.1.1/\0<=a/\a<=l.length/\0<=d/\d<=s.2.2/\WS (s.2.2-d).toNat (l.take a.toNat)) (λ(_,a,_)=>(l.length-a).toNat) (by
  obtain⟨c,a,d⟩:=s
  dsimp only at *
  have:(d-d).toNat=0:=Z
  rw[h.2.1,this]
  exact⟨rfl,Z,Z,Z,Z,.nil⟩) λ⟨c,a,d⟩ ⟨h1,X,h3,h4,h5,h6⟩ => ?_
 unfold wW ni
 dsimp only at *
 refine T.zf (λe => ?_) λe => ?_
 ·have e:=uY e
  refine T.qq ⟨X,e⟩ (T.xf (T.xf (T.xv (h.2.2.2.2.2.2 _ (xo X e) _ _ (by rw[qv (Z) (Z)]; omega)) λr hr => ?_)))
  refine T.ze (T.zf (λe1=>T.ze ⟨X,hr.1,Z⟩) λe1=>T.ze ?_)
  obtain⟨g1,g2⟩:=hr.2.2 (by simpa using e1)
  rw[qv (Z) (Z)]
  dsimp only
  refine⟨⟨h1,Z,Z,g1,Z,?_⟩,Z⟩
  rw[cU l a _ X e,show(s.2.2-r.2).toNat=(s.2.2-d).toNat+(d-r.2).toNat by omega]
  exact .snoc h6 g2
 ·have e:=hZ e
  refine T.ze ⟨h4,h5,?_⟩
  rwa [zK (Z)]at h6⟩
instance (e:Expr) (d l:Int):Sp (Q2 e d l) (EW 2000000 e/\0<=d/\d<=32/\0<=l/\l<=256) (λr => -1<=r.2/\r.2<l/\(r.1=true->0<=r.2/\EO (l-r.2).toNat e)):=⟨λh=>by
 unfold Q2
 refine T.sR (x:=(e,d,l)) (σ:=Expr×Int×Int) (ρ:=Bool×Int) (λ(e,d,l)=>EW 2000000 e/\0<=d/\d<=32/\0<=l/\l<=256) (λ(e,_,_)=>qL e) (λ(e,_,l) r => -1<=r.2/\r.2<l/\(r.1=true->0<=r.2/\EO (l-r.2).toNat e)) ?_ ?_ h
 ·intro g g' hg x
  unfold iU wV vo wB wW ni
  exact mono
 ·intro⟨e,d,l⟩ ⟨he,h1,X,h3,h4⟩ g hg
  dsimp only at *
  have hn:=he
  cases he with
  | @mk kd n s L g1 g2 g3 g4 g5 =>
  have hk:∀ e∈L,∀ d f:Int,0<=d/\d<=32/\0<=f/\f<=256->(g (e,d,f)).wp λr => -1<=r.2/\r.2<f/\(r.1=true->0<=r.2/\EO (f-r.2).toNat e):=λe he d f h=>hg (e,d,f) ⟨g5 e he,h⟩ (by have:=List.sizeOf_lt_of_mem he; simp; omega)
  have hs:∀ (f:Int),Sp (wB (λy0 y1 y2=>g (y0,y1,y2)) L (L.length:Int) ((d,()),0,f)) (d<32/\0<=f/\f<=256) (λr=>match r with | .inl z=>0<=z/\z<=f/\WS (f-z).toNat L | .inr z=>0<=z.1 /\ -1<=z.2/\z.2<=f):=λf=>⟨λh=>Sp.sp ⟨g4,rfl,h1,h.1,h.2.1,h.2.2,hk⟩⟩
  have ho:∀ z:Int,WS (l-1-z).toNat L->L.length=arity kd->1<=kd->kd<=7->(kd=1->rl n<=16)->(kd=2->nL s)->0<=z->z<=l-1->EO (l-z).toNat (.mk kd n s L):=λz h a1 a2 a3 a4 a5 a6 a7=>by
   have:=EO.of h a1 a2 a3 g1 a4 a5
   rwa [show(l-1-z).toNat+1=(l-z).toNat by omega]at this
  unfold iU wV vo
  simp only[Expr.kids]
  rw[qv (Z) (Z)]
  have hi:Sp (nF (.mk kd n s L)) True (λr=>r=true->L.length=arity kd/\1<=kd/\kd<=7/\(kd=1->rl n<=16)/\(kd=2->nL s)):=⟨λ_=>Sp.sp hn⟩
  clear hg hk g5 hn h g1 g2 g3 g4
  exact lR⟩
def EK(e:Expr):Prop:=∃ n,n<=256/\EO n e
instance (e:Expr):Sp (iT e) (EW 2000000 e) (λr=>r=true->EK e):=⟨λh=>by unfold iT EK; exact lR⟩
end Go.AM
namespace Go.AM
open T PL Lf
theorem JR{s:zo}(h:Tk s):cl s:=λb J=>by have:=h.2 b J; omega
instance (e:Expr):Sp (mC e) True (λr=>1<=r/\r<=4):=⟨λ_=>by unfold mC; exact lR⟩
instance (e:Expr):Sp (Q3 e) (EK e) (λr=>r.length<=665600/\cl r):=⟨λh=>by
 unfold Q3
 refine T.xv (P:=λr=>(∀ n,EO n e->r.length<=2600*n)/\cl r) ?_ λr hr=>⟨by obtain⟨n,h1,X⟩:=h; have:=hr.1 n X; omega,hr.2⟩
 refine T.sR (x:=e) (σ:=Expr) (ρ:=zo) (λe=>∃ n,n<=256/\EO n e) (λe=>qL e) (λe r=>(∀ n,EO n e->r.length<=2600*n)/\cl r) ?_ ?_ h
 ·intro g g' hg x
  unfold gY dK
  exact mono
 ·intro e ⟨n,hn,he⟩ g hg
  have hs:∀ y,Sp (g y) ((∃ n,n<=256/\EO n y)/\qL y<qL e) (λr=>(∀ n,EO n y->r.length<=2600*n)/\cl r):=λy=>⟨λh=>hg y h.1 h.2⟩
  have hp:∀ y f,Sp (dK (λy0=>g y0) y f) ((∃ n,n<=256/\EO n y)/\qL y<qL e) (λr=>(∀ n,EO n y->r.length<=2600*n+2)/\cl r):=λy f=>⟨λh=>by
   have c0 := @yu
   have c3:cl [40]/\cl [41]:=qj
   unfold dK
   clear hg
   exact lR⟩
  clear hg h hs
  cases he with
  | num h1 X =>
   unfold gY
   simp only[Expr.kids,Expr.kind,Expr.num,Expr.name]
   have:∀ {n m s},EO n (.mk 1 m s [])->1<=n:=λh=>by cases h<;>omega
   refine T.xf (T.vy rfl ?_)
   exact lR
  | nam h1 =>
   have X:=JR h1.2
   unfold gY
   simp only[Expr.kids,Expr.kind,Expr.num,Expr.name]
   have:∀ {n m s},EO n (.mk 2 m s [])->1<=n:=λh=>by cases h<;>omega
   refine T.xf (T.wk rfl (T.vy rfl ?_))
   exact lR
  | @neg m s i a h1 =>
   unfold gY
   simp only[Expr.kids,Expr.kind,Expr.num,Expr.name]
   have X:∀ {n},EO n (.mk 7 m s [a])->∃ j,n=j+1/\EO j a:=λh=>by cases h; exact⟨_,rfl,by assumption⟩
   refine T.xf (T.wk rfl (T.wk rfl (T.vy rfl (T.qq ⟨Z,qu⟩ (T.za ⟨⟨i,Z,h1⟩,by simp[nth]; omega⟩ λr hr => ?_)))))
   refine T.vq (by have:=hr.1 i h1; simp; omega) (T.ze (T.ze ⟨λn hn => ?_,yu.2 ⟨qj,hr.2⟩⟩))
   obtain⟨j,rfl,hj⟩:=X hn
   have:=hr.1 j hj
   rw[dO]; simp<;>omega
  | @bin k m s i j a b h1 X h3 h4 =>
   unfold gY
   simp only[Expr.kids,Expr.kind,Expr.num,Expr.name]
   have h5:∀ {n},EO n (.mk k m s [a,b])->∃ i j,n=i+j+1/\EO i a/\EO j b:=λh=>by cases h; exact⟨_,_,rfl,by assumption,by assumption⟩
   refine T.xf (T.wk (wa) (T.wk (wa) (T.wk (wa) (T.xv (P:=λz=>∃ c:zo,z=.inl c/\c.length<=3/\cl c) (by clear hp; have c3:cl [32,43,32]/\cl [32,45,32]/\cl [32,42,32]/\cl [32,47,32]/\cl []:=(qj); exact lR) ?_))))
   rintro z ⟨c,rfl,hc⟩
   refine T.qq ⟨Z,by simp<;>omega⟩ (T.za trivial λy hy=>T.za ⟨⟨i,Z,h3⟩,by simp[nth]; omega⟩ λr hr=>T.vq (by have:=hr.1 i h3; omega) (T.qq ⟨Z,qu⟩ (T.za trivial λy hy=>T.za ⟨⟨j,Z,h4⟩,by simp[nth]; omega⟩ λr' D6=>T.vq (by have:=hr.1 i h3; have:=D6.1 j h4; rw[dO]; omega) (T.ze ⟨λn hn => ?_,yu.2 ⟨yu.2 ⟨hr.2,hc.2⟩,D6.2⟩⟩))))
   obtain⟨i',j',rfl,hi,hj⟩:=h5 hn
   have:=hr.1 i' hi
   have:=D6.1 j' hj
   rw[dO,dO]; omega⟩
instance (e:Expr):Sp (rP e) (EW 2000000 e) (λr=>r.length<=665600/\cl r):=⟨λh=>by have c3:cl []:=(qj); unfold rP; exact lR⟩
end Go.AM
namespace Go.AM.Lf
open T PL
abbrev KK:Nat:=2000000
def stg:List zo:=[[114,101,113,117,105,114,101,100],[115,116,114,111,110,103],[109,101,100,105,117,109],[119,101,97,107]]
def FW(k:Nat)(f:Form):Prop :=
 (f.1.length<=k/\∀ x∈f.1,x.1.length<=KK)/\(f.2.1.length<=k/\∀ x∈f.2.1,x.1.length<=KK/\rg x.2.1/\rl x.2.1<=KK)/\(f.2.2.1.length<=k/\∀ x∈f.2.2.1,x.1.length<=KK/\x.2.1.length<=KK) /\
 (f.2.2.2.1.length<=k/\∀ x∈f.2.2.2.1,x.1.length<=KK)/\(f.2.2.2.2.1.length<=k/\∀ x∈f.2.2.2.2.1,x.1.length<=KK/\x.2.2.1.length<=KK/\EW KK x.2.2.2.1/\EW KK x.2.2.2.2.1) /\
 (f.2.2.2.2.2.1.length<=k/\∀ x∈f.2.2.2.2.2.1,x.1.length<=KK/\EW KK x.2.2.2.1/\EW KK x.2.2.2.2.1)
def FO(f:Form):Prop :=
 (∀ x∈f.1,nL x.1)/\(∀ x∈f.2.1,nL x.1/\rl x.2.1<=16)/\(∀ x∈f.2.2.1,nL x.1/\wL x.2.1) /\
 (∀ x∈f.2.2.2.1,nL x.1/\0<=x.2.1/\x.2.1<f.2.2.1.length/\0<=x.2.2.2.1/\x.2.2.2.1<=9)/\(∀ x∈f.2.2.2.2.1,nL x.1/\0<=x.2.1/\x.2.1<4/\wL x.2.2.1/\EK x.2.2.2.1/\EK x.2.2.2.2.1) /\
 (∀ x∈f.2.2.2.2.2.1,nL x.1/\0<=x.2.2.1/\x.2.2.1<3/\EK x.2.2.2.1/\EK x.2.2.2.2.1)
theorem cK{σ ρ α:Type}(l:List α)(d:α)(ix:σ->Int)(A P:α->Prop)(hb:σ->Prop)(hA:∀ x∈l,A x){r:σ->T (σ⊕ρ)}{Q:ρ->Prop}{s:σ}(hs:ix s=0/\hb s)
  (step:∀ s x,hb s->A x->nth l (ix s) d=x->0<=ix s->ix s<l.length->(r s).wp λz=>match z with | .inl s'=>ix s'=ix s+1/\hb s'/\P x | .inr y=>Q y)
  (done:∀ s,hb s->ix s=l.length->(∀ x∈l,P x)->(r s).wp λz=>match z with | .inl _=>False | .inr y=>Q y):(T.loop r s).wp Q:=by
 refine T.ug (λs=>0<=ix s/\ix s<=l.length/\hb s/\∀ j:Int,0<=j->j<ix s->P (nth l j d)) (λs=>(l.length-ix s).toNat) ⟨Z,Z,hs.2,λj h0 h1=>Z⟩ λs ⟨h0,h1,X,h3⟩ => ?_
 by_cases h:ix s<l.length
 ·refine T.xv (step s _ X (hA _ (xo h0 h)) rfl h0 h) λz hz => ?_
  cases z with
  | inl s' =>
   obtain⟨e,hj,hp⟩:=hz
   refine⟨⟨Z,Z,hj,λj k0 k1 => ?_⟩,Z⟩
   by_cases e':j=ix s
   ·subst e'; exact hp
   ·exact h3 j k0 (Z)
  | inr y=>exact hz
 ·refine T.xv (done s X (Z) λx U => ?_) λz hz => ?_
  ·obtain⟨j,k0,k1,rfl⟩:=UG (d:=d) U
   exact h3 j k0 (Z)
  ·cases z with
   | inl s'=>exact hz.elim
   | inr y=>exact hz
theorem each{σ ρ α:Type}(l:List α)(d:α)(ix:σ->Int)(A P:α->Prop)(hb:σ->Prop)(hA:∀ x∈l,A x){r:σ->T (σ⊕ρ)}{Q:ρ->Prop}{s:σ}(hs:ix s=0/\hb s:=by grind)
  (step:∀ s x,hb s->A x->nth l (ix s) d=x->0<=ix s->ix s<l.length->(r s).wp λz=>match z with | .inl s'=>ix s'=ix s+1/\hb s'/\P x | .inr y=>Q y:=by
 intros
 repeat' (with_reducible first
  | refine T.ze ?_
  | refine T.zf (λ_ => ?_) (λ_ => ?_)
  | refine T.z8 ?_
  | refine T.zc ?_
  | refine T.uH ?_ ?_
  | refine T.qq ?_ ?_
  | refine T.vX ?_ ?_
  | refine T.vq ?_ ?_
  | refine T.zj ?_ ?_
  | refine T.vY (λ_ _ => ?_) (λ_ _ => ?_)
  | refine T.za ?_ (λ_ _ => ?_)
  | refine T.vG ?_ (λ_ _ => ?_)
  | refine T.xf ?_
  | dsimp only)
 all_goals grind [xb,uT,eY,jJ,ub,ja,E7,Bb,Vj,WL,dO])
  (done:∀ s,hb s->ix s=l.length->(∀ x∈l,P x)->(r s).wp λz=>match z with | .inl _=>False | .inr y=>Q y:=by
 intros
 repeat' (with_reducible first
  | refine T.ze ?_
  | refine T.zf (λ_ => ?_) (λ_ => ?_)
  | refine T.z8 ?_
  | refine T.zc ?_
  | refine T.uH ?_ ?_
  | refine T.qq ?_ ?_
  | refine T.vX ?_ ?_
  | refine T.vq ?_ ?_
  | refine T.zj ?_ ?_
  | refine T.vY (λ_ _ => ?_) (λ_ _ => ?_)
  | refine T.za ?_ (λ_ _ => ?_)
  | refine T.vG ?_ (λ_ _ => ?_)
  | refine T.xf ?_
  | dsimp only)
 all_goals grind):(T.loop r s).wp Q:=cK l d ix A P hb hA hs step done
theorem goq{p:Prop} (h:p:=by
 intros
 repeat' (with_reducible first
  | refine T.ze ?_
  | refine T.zf (λ_ => ?_) (λ_ => ?_)
  | refine T.z8 ?_
  | refine T.zc ?_
  | refine T.uH ?_ ?_
  | refine T.qq ?_ ?_
  | refine T.vX ?_ ?_
  | refine T.vq ?_ ?_
  | refine T.zj ?_ ?_
  | refine T.vY (λ_ _ => ?_) (λ_ _ => ?_)
  | refine T.za ?_ (λ_ _ => ?_)
  | refine T.vG ?_ (λ_ _ => ?_)
  | refine T.xf ?_
  | dsimp only)
 all_goals grind [xb,uT,eY,jJ,ja,E7,Bb,Vj]):p:=h
instance (x:Switch):Sp (gn x) (x.1.length<=KK) (λr=>r=false->nL x.1):=⟨λh=>by unfold gn; exact lR⟩
instance (x:Param):Sp (gp x) (x.1.length<=KK/\rg x.2.1/\rl x.2.1<=KK) (λr=>r=false->nL x.1/\rl x.2.1<=16):=⟨λh=>by have:nm x.2.1↔norm x.2.1=x.2.1:=Iff.rfl; unfold gp; exact lR⟩
instance (x:zo):Sp (lL x) (x.length<=KK) (λr=>r=true->wL x):=⟨λh=>by unfold lL; exact lR⟩
instance (x:cv):Sp (gq x) (x.1.length<=KK/\x.2.1.length<=KK) (λr=>r=false->nL x.1/\wL x.2.1):=⟨λh=>by unfold gq; exact lR⟩
instance:Sp yl True (λr=>r.length=4/\(∀ s∈r,s.length<=8)/\r=stg):=⟨λ_=>by unfold yl; exact T.ze ⟨rfl,qj,rfl⟩⟩
instance:Sp bY True (λr=>r.length=3/\∀ s∈r,s.length<=2/\cl s):=⟨λ_=>by unfold bY; exact T.ze ⟨rfl,qj⟩⟩
instance (x:cx):Sp (yk x) (x.1.length<=KK/\x.2.2.1.length<=KK/\EW KK x.2.2.2.1/\EW KK x.2.2.2.2.1) (λr=>r=false->nL x.1/\0<=x.2.1/\x.2.1<4/\wL x.2.2.1/\EK x.2.2.2.1/\EK x.2.2.2.2.1):=⟨λh=>by unfold yk; exact goq⟩
instance (f:Form):Sp (tK f) (FW KK f) (λr=>r=true->(∀ x∈f.1,nL x.1)/\(∀ x∈f.2.1,nL x.1/\rl x.2.1<=16)/\(∀ x∈f.2.2.1,nL x.1/\wL x.2.1)):=⟨λh=>by unfold tK; unfold FW at h; exact goq⟩
instance (a b c:Int):Sp (lK a b c) True (λr=>r=true->0<=a/\a<c):=⟨λ_=>by unfold lK; exact lR⟩
instance (f:Form) (s:Int×Int):Sp (oB f f.2.2.2.1 (f.2.2.2.1.length:Int) s) (s.2=0/\f.2.2.2.1.length<=KK/\∀ x∈f.2.2.2.1,x.1.length<=KK)
  (λr=>match r with | .inl _=>∀ x∈f.2.2.2.1,nL x.1/\0<=x.2.1/\x.2.1<f.2.2.1.length/\0<=x.2.2.2.1/\x.2.2.2.1<=9 | .inr b=>b=false):=⟨λh=>by
 unfold oB oD
 exact each f.2.2.2.1 (zb qw) (λ(_,i)=>i) (λx=>x.1.length<=KK) (λx=>nL x.1/\0<=x.2.1/\x.2.1<f.2.2.1.length/\0<=x.2.2.2.1/\x.2.2.2.1<=9) (λ(_,i)=>i<=KK) h.2.2⟩
instance (f:Form) (s:Int×Int):Sp (oy f f.2.2.2.2.2.1 (f.2.2.2.2.2.1.length:Int) s) (s.2=0/\f.2.2.2.2.2.1.length<=KK/\∀ x∈f.2.2.2.2.2.1,x.1.length<=KK/\EW KK x.2.2.2.1/\EW KK x.2.2.2.2.1)
  (λr=>match r with | .inl _=>∀ x∈f.2.2.2.2.2.1,nL x.1/\0<=x.2.2.1/\x.2.2.1<3/\EK x.2.2.2.1/\EK x.2.2.2.2.1 | .inr b=>b=false):=⟨λh=>by
 unfold oy oz
 exact each f.2.2.2.2.2.1 (zb xk) (λ(_,i)=>i) (λx=>x.1.length<=KK/\EW KK x.2.2.2.1/\EW KK x.2.2.2.2.1) (λx=>nL x.1/\0<=x.2.2.1/\x.2.2.1<3/\EK x.2.2.2.1/\EK x.2.2.2.2.1) (λ(_,i)=>i<=KK) h.2.2⟩
open T PL
inductive It
 | sw (n:zo) (b:Bool)
 | pg (n w:zo)
 | ot (k n t:zo)
def Cm(w:zo):zo:=if w=[]then[]else cat [32,119,104,101,110,32] w
def onS(b:Bool):zo:=bif b then[32,111,110,10]else[32,111,102,102,10]
def It.Hp:It->zo
 | .sw n b=>cat (cat [115,119,105,116,99,104,32] n) (bif b then[32,111,110]else[32,111,102,102])
 | .pg n w=>cat (cat [112,97,103,101,32] n) (Cm w)
 | .ot k n t=>cat (cat k n) t
def It.TH:It->List zo
 | .sw n _=>[n]
 | _=>[]
def It.Tp:It->List (zo×zo)
 | .pg n w=>[(n,w)]
 | _=>[]
def sps(t:zo):Prop:=t=[]\/t.head? = some 32
def ruK(s:zo):zo:=cat (cat [114,117,108,101,32] s) [32]
def kws:List zo:=[[112,97,114,97,109,32],[102,105,101,108,100,32],[99,104,101,99,107,32]]++stg.map ruK
def It.ok(N:zo->Prop):It->Prop
 | .sw n _=>Tk n
 | .pg n w=>Tk n/\(w=[]\/Tk w)
 | .ot k n t=>k∈kws/\Tk n/\N n/\cl t/\sps t
def GH(N:zo->Prop):It->Prop
 | .ot k n t=>It.ok N (.ot k n t)
 | _=>False
def tx(l:List It):zo:=l.flatMap λi=>i.Hp++[10]
def Li(P:It->Prop)(s:zo):Prop:=∃ i,P i/\s=i.Hp++[10]
def Ap(P:It->Prop)(c c':List Int):Prop:=∃ l,c'=c++bytesOf (tx l)/\∀ i∈l,P i
theorem CG(a b:zo):bytesOf (a++b)=bytesOf a++bytesOf b:=qW
theorem DW(a b:List It):tx (a++b)=tx a++tx b:=qA
theorem zeE(i:It):tx [i]=i.Hp++[10]:=by simp[tx]
theorem z06(P:It->Prop)(c:List Int):Ap P c c:=⟨[],by simp[tx,bytesOf],nofun⟩
theorem z6d{P:It->Prop}{c c':List Int}{s:zo}(h:Ap P c c')(k:Li P s):Ap P c (c'++bytesOf s):=by
 obtain⟨l,rfl,h1⟩:=h
 obtain⟨i,X,rfl⟩:=k
 refine⟨l++[i],by rw[DW,zeE,CG _ (_++_),qR],λj hj => ?_⟩
 rcases zS.1 hj with q | q
 ·exact h1 j q
 ·rw[zV.1 q]; exact X
def Fd(n r:zo):Prop:=∃ t,r=cat (cat (cat [102,105,101,108,100,32] n) t) [10]/\cl t/\sps t
def Sd(r:zo):Prop:=∃ t,r=cat t [10]/\cl t/\t.head? = some 32
theorem zi8{N:zo->Prop}{n r:zo}(h:nL n)(hN:N n)(k:Fd n r):Li (GH N) r:=by
 obtain⟨t,rfl,h1,X⟩:=k
 exact⟨.ot [102,105,101,108,100,32] n t,⟨qj,h.2,hN,h1,X⟩,rfl⟩
theorem zi7{N:zo->Prop}{n r:zo}(h:nL n)(hN:N n)(k:Sd r):Li (GH N) (cat (cat [99,104,101,99,107,32] n) r):=by
 obtain⟨t,rfl,h1,X⟩:=k
 exact⟨.ot [99,104,101,99,107,32] n t,⟨qj,h.2,hN,h1,.inr X⟩,by simp[It.Hp,cat]⟩
theorem zi9{N:zo->Prop}{n e:zo}(h:nL n)(hN:N n)(k:cl e):Li (GH N) (cat (cat (cat (cat [112,97,114,97,109,32] n) [32]) e) [10]) :=
 ⟨.ot [112,97,114,97,109,32] n (32::e),⟨qj,h.2,hN,(yu (a:=[32]) (b:=e)).2 ⟨qj,k⟩,.inr rfl⟩,by simp[It.Hp,cat]⟩
theorem zeG{w:zo}(h:wL w):cl (Cm w):=by
 unfold Cm
 split
 ·exact(qj)
 ·rename_i e; exact yu.2 ⟨qj,JR (h.2.resolve_left e)⟩
theorem zia{N:zo->Prop}{s n w r:zo}(hs:s∈stg)(h:nL n)(hN:N n)(hw:wL w)(k:Sd r):Li (GH N) (cat (cat (cat (cat (cat [114,117,108,101,32] s) [32]) n) (Cm w)) r):=by
 obtain⟨t,rfl,h1,X⟩:=k
 refine⟨.ot (ruK s) n (cat (Cm w) t),⟨zS.2 (.inr (xP.2 ⟨s,hs,rfl⟩)),h.2,hN,yu.2 ⟨zeG hw,h1⟩,.inr ?_⟩,by simp[It.Hp,cat,ruK]⟩
 unfold Cm cat
 split
 ·exact X
 ·rfl
theorem zib{n:zo}(h:nL n)(b:Bool):Li (· = .sw n b) (cat (cat [115,119,105,116,99,104,32] n) (onS b)):=⟨_,rfl,by cases b<;>simp[It.Hp,cat,onS]⟩
def fm(f:Form)(n:zo):Prop:=(∃ x∈f.2.1,x.1=n)\/(∃ x∈f.2.2.2.1,x.1=n)\/(∃ x∈f.2.2.2.2.1,x.1=n)\/∃ x∈f.2.2.2.2.2.1,x.1=n
def WR(p:cv):zo×zo:=(p.1,p.2.1)
def Ag(N:zo->Prop)(c c':List Int)(b:List (zo×zo)):Prop:=∃ l,c'=c++bytesOf (tx l)/\(∀ i∈l,It.ok N i)/\l.flatMap It.Tp=b/\l.flatMap It.TH=[]
theorem MA{N:zo->Prop}:∀ {i:It},GH N i->i.ok N/\i.Tp=[]/\i.TH=[]
 | .ot _ _ _,h=>⟨h,rfl,rfl⟩
theorem It.mono{N M:zo->Prop}(h:∀ n,N n->M n):∀ {i:It},i.ok N->i.ok M
 | .sw _ _,k=>k
 | .pg _ _,k=>k
 | .ot _ _ _,k=>⟨k.1,k.2.1,h _ k.2.2.1,k.2.2.2⟩
theorem fl0{α:Type}{g:It->List α}{l:List It}(h:∀ i∈l,g i=[]):l.flatMap g=[]:=by
 rw[List.flatMap_eq_nil_iff]; exact h
theorem z04{N M:zo->Prop}{c c':List Int}(k:Ap (GH N) c c')(h:∀ n,N n->M n):Ag M c c' []:=by
 obtain⟨l,rfl,h1⟩:=k
 exact⟨l,rfl,λi hi=>It.mono h (MA (h1 i hi)).1,fl0 λi hi=>(MA (h1 i hi)).2.1,fl0 λi hi=>(MA (h1 i hi)).2.2⟩
theorem z05{N:zo->Prop}{a b c:List Int}{x y:List (zo×zo)}(h:Ag N a b x)(k:Ag N b c y):Ag N a c (x++y):=by
 obtain⟨l,rfl,h1,X,h3⟩:=h
 obtain⟨m,rfl,k1,k2,k3⟩:=k
 exact⟨l++m,by rw[DW,CG,qR],λj hj=>(zS.1 hj).elim (h1 j) (k1 j),by rw[qA,X,k2],by rw[qA,h3,k3]; rfl⟩
theorem zn7{N:zo->Prop}{n w:zo}(h:nL n)(hw:wL w)(c:List Int):Ag N c (c++bytesOf (cat (cat (cat [112,97,103,101,32] n) (Cm w)) [10])) [(n,w)] :=
 ⟨[.pg n w],by rw[zeE]; rfl,λi hi=>by rw[zV.1 hi]; exact⟨h.2,hw.2⟩,rfl,rfl⟩
def Tx(f:Form)(r:zo):Prop:=∃ l:List It,r=tx l/\(∀ i∈l,i.ok (fm f))/\l.flatMap It.TH=f.1.map (·.1)/\l.flatMap It.Tp=f.2.2.1.map WR
def swl(l:List Switch):List It:=l.map λx=>.sw x.1 x.2.1
theorem zc8(s:zo):jb (bytesOf s)=s:=by
 unfold jb bytesOf
 rw[List.map_map]
 conv=>rhs; rw[<- List.map_id s]
 refine List.map_congr_left λb _ => ?_
 simp[byteOf]
theorem zfu{f:Form}{b c d e:List Int}(hs:∀ x∈f.1,nL x.1)(h0:b=bytesOf (tx (swl f.1)))(h1:Ap (GH λn=>∃ x∈f.2.1,x.1=n) b c)(X:Ag (fm f) c d (f.2.2.1.map WR))(h3:Ap (GH λn=>∃ x∈f.2.2.2.2.1,x.1=n) d e):Tx f (jb e):=by
 obtain⟨l,rfl,k1,k2,k3⟩:=z05 (z05 (z04 h1 λn h=>.inl h) X) (z04 (M:=fm f) h3 λn h=>.inr (.inr (.inl h)))
 subst h0
 refine⟨swl f.1++l,by rw[<- CG,<- DW,zc8],λi hi => ?_,?_,?_⟩
 ·rcases zS.1 hi with q | q
  ·obtain⟨x,U,rfl⟩:=xP.1 q; exact(hs x U).2
  ·exact k1 i q
 ·rw[qA,k3,List.append_nil]; unfold swl; rw[List.flatMap_map]; induction f.1<;>simp_all [It.TH]
 ·rw[qA,k2]; unfold swl; rw[List.flatMap_map]; simp[It.Tp]
open T PL
instance (f:Form):Sp (pJ f) (FW 8200 f) (λr=>r=true->∀ x∈f.2.2.2.1,nL x.1/\0<=x.2.1/\x.2.1<f.2.2.1.length/\0<=x.2.2.2.1/\x.2.2.2.1<=9):=⟨λh=>by unfold FW at h; unfold pJ; exact goq⟩
instance (f:Form):Sp (pI f) (FW 8200 f) (λr=>r=true->(∀ x∈f.2.2.2.2.1,nL x.1/\0<=x.2.1/\x.2.1<4/\wL x.2.2.1/\EK x.2.2.2.1/\EK x.2.2.2.2.1) /\
 (∀ x∈f.2.2.2.2.2.1,nL x.1/\0<=x.2.2.1/\x.2.2.1<3/\EK x.2.2.2.1/\EK x.2.2.2.2.1)):=⟨λh=>by unfold FW at h; unfold pI; exact goq⟩
def bt(l:List Int):Prop:=∀ n∈l,(0:Int)<=n/\n<256
theorem Vd{l:List Int}(h:bt l)(s:zo):bt (l++bytesOf s):=λn hn=>by
 rcases zS.1 hn with k | k
 ·exact h n k
 ·unfold bytesOf at k
  obtain⟨b,_,rfl⟩:=xP.1 k
  have:=b.toNat_lt
  omega
theorem ez(s:zo):(bytesOf s).length=s.length:=by unfold bytesOf; simp
instance (b:zo) (c:List Int):Sp (xr b () c) (c.length+b.length<=140737488355328) (λr=>r.2.2=c++bytesOf b):=⟨λh=>by
 have:=ez b
 unfold xr tR ub
 exact goq⟩
theorem goa{p:Prop} (h:p:=by
 intros
 repeat' (with_reducible first
  | refine T.ze ?_
  | refine T.zf (λ_ => ?_) (λ_ => ?_)
  | refine T.z8 ?_
  | refine T.zc ?_
  | refine T.uH ?_ ?_
  | refine T.qq ?_ ?_
  | refine T.vX ?_ ?_
  | refine T.vq ?_ ?_
  | refine T.zj ?_ ?_
  | refine T.vY (λ_ _ => ?_) (λ_ _ => ?_)
  | refine T.za ?_ (λ_ _ => ?_)
  | refine T.vG ?_ (λ_ _ => ?_)
  | refine T.xf ?_
  | dsimp only)
 all_goals try simp only[dO,List.length_cons,List.length_nil,Nat.reduceAdd,Nat.zero_add]
 all_goals grind [xb,uT,eY,jJ,ub,ja,dO,Vd,ez,WL,Vj]):p:=h
theorem NJ{σ ρ α:Type}(l:List α)(d:α)(ix:σ->Int)(A P:α->Prop)(hb:σ->Prop)(hA:∀ x∈l,A x){r:σ->T (σ⊕ρ)}{Q:ρ->Prop}{s:σ}(hs:ix s=0/\hb s:=by grind)
  (step:∀ s x,hb s->A x->nth l (ix s) d=x->0<=ix s->ix s<l.length->(r s).wp λz=>match z with | .inl s'=>ix s'=ix s+1/\hb s'/\P x | .inr y=>Q y:=by
 intros
 repeat' (with_reducible first
  | refine T.ze ?_
  | refine T.zf (λ_ => ?_) (λ_ => ?_)
  | refine T.z8 ?_
  | refine T.zc ?_
  | refine T.uH ?_ ?_
  | refine T.qq ?_ ?_
  | refine T.vX ?_ ?_
  | refine T.vq ?_ ?_
  | refine T.zj ?_ ?_
  | refine T.vY (λ_ _ => ?_) (λ_ _ => ?_)
  | refine T.za ?_ (λ_ _ => ?_)
  | refine T.vG ?_ (λ_ _ => ?_)
  | refine T.xf ?_
  | dsimp only)
 all_goals try simp only[dO,List.length_cons,List.length_nil,Nat.reduceAdd,Nat.zero_add]
 all_goals grind [xb,uT,eY,jJ,ub,ja,dO,Vd,ez,WL,Vj])
  (done:∀ s,hb s->ix s=l.length->(∀ x∈l,P x)->(r s).wp λz=>match z with | .inl _=>False | .inr y=>Q y:=by
 intros
 repeat' (with_reducible first
  | refine T.ze ?_
  | refine T.zf (λ_ => ?_) (λ_ => ?_)
  | refine T.z8 ?_
  | refine T.zc ?_
  | refine T.uH ?_ ?_
  | refine T.qq ?_ ?_
  | refine T.vX ?_ ?_
  | refine T.vq ?_ ?_
  | refine T.zj ?_ ?_
  | refine T.vY (λ_ _ => ?_) (λ_ _ => ?_)
  | refine T.za ?_ (λ_ _ => ?_)
  | refine T.vG ?_ (λ_ _ => ?_)
  | refine T.xf ?_
  | dsimp only)
 all_goals try simp only[dO,List.length_cons,List.length_nil,Nat.reduceAdd,Nat.zero_add]
 all_goals grind [xb,uT,eY,jJ,ub,ja,dO,Vd,ez,WL,Vj]):(T.loop r s).wp Q:=cK l d ix A P hb hA hs step done
instance (a:zo):Sp (sI a) (a.length<=1000000) (λr=>r.length<=a.length+6/\r=Cm a):=⟨λh=>by
 unfold sI Cm
 refine T.zf (λe => ?_) λe => ?_
 ·have e:a=[]:=by simpa[xw]using e
  subst e; exact T.ze ⟨qu,rfl⟩
 ·have e:a≠[]:=by simpa[xw]using e
  rw[if_neg e]
  exact T.vq (by simp; omega) (T.ze ⟨by rw[dO]; simp; omega,rfl⟩)⟩
theorem z6v(n:Nat):cl (HA n):=by
 induction n using zR with
 | _ n ih =>
  intro b J
  rw[HA]at J
  split at J
  ·rw[zV.1 J,UInt8.toNat_ofNat']; omega
  ·rcases zS.1 J with h | h
   ·exact ih _ (Z) b h
   ·rw[zV.1 h,UInt8.toNat_ofNat']; omega
theorem z1Q(n:Int)(h0:0<=n)(h:n<1000000000000000000):(Kh n).length<=18:=by
 have key:∀ (k u:Nat),u<10 ^ (k+1)->(HA u).length<=k+1:=by
  intro k
  induction k with
  | zero=>intro u hu; rw[HA,dif_pos (Z)]; simp
  | succ k ih =>
   intro u hu
   rw[HA]
   split
   ·simp
   ·have:=ih (u / 10) (by rw[zE]at hu; omega)
    simp; omega
 unfold Kh
 rw[if_neg (Z)]
 exact key 17 _ (Z)
instance (a:Int):Sp (strconv_Itoa a) (0<=a/\a<1000000000000000000) (λr=>r.length<=18/\cl r):=⟨λh=>by unfold strconv_Itoa; exact T.zj (Z) (T.ze ⟨z1Q _ h.1 h.2,by unfold Kh; rw[if_neg (Z)]; exact z6v _⟩)⟩
instance (x:Field):Sp (tJ x) (nL x.1/\0<=x.2.2.2.1/\x.2.2.2.1<=9) (λr=>r.length<=80/\Fd x.1 r):=⟨λh=>by
 obtain⟨n,p,m,s,u⟩:=x
 have f0:Fd n (cat (cat [102,105,101,108,100,32] n) [10]):=⟨[],by simp[cat],qj,.inl rfl⟩
 have f1:Fd n (cat (cat (cat [102,105,101,108,100,32] n) [32,109,117,115,116]) [10]):=⟨_,rfl,qj,.inr rfl⟩
 have f2:∀ e,cl e->Fd n (cat (cat (cat [102,105,101,108,100,32] n) (cat [32,115,99,97,108,101,32] e)) [10]):=λe k=>⟨_,rfl,yu.2 ⟨qj,k⟩,.inr rfl⟩
 have f3:∀ e,cl e->Fd n (cat (cat (cat (cat [102,105,101,108,100,32] n) [32,109,117,115,116]) (cat [32,115,99,97,108,101,32] e)) [10]):=λe k=>⟨cat [32,109,117,115,116] (cat [32,115,99,97,108,101,32] e),by simp[cat],yu.2 ⟨qj,yu.2 ⟨qj,k⟩⟩,.inr rfl⟩
 unfold tJ
 cases m<;>dsimp only[cond_true,cond_false]<;>exact goa⟩
instance (a b:Expr) (s:zo):Sp (nY a s b) (EW KK a/\EW KK b/\s.length<=2/\cl s) (λr=>r.length<=1331300/\Sd r):=⟨λh=>by
 have s0:∀ c d:zo,cl c->cl s->cl d->Sd (cat (cat (cat (cat (cat (cat [32,58,32] c) [32]) s) [32]) d) [10]):=λc d h1 X h3=>⟨_,rfl,by simp only[yu]; exact⟨⟨⟨⟨⟨qj,h1⟩,qj⟩,X⟩,qj⟩,h3⟩,rfl⟩
 unfold nY; exact goa⟩
instance (i:Int) (f:Form) (s:Int×Unit×List Int):Sp (oF i f f.2.2.2.1 (f.2.2.2.1.length:Int) s) (s.1=0/\f.2.2.2.1.length<=8200/\(∀ x∈f.2.2.2.1,nL x.1/\0<=x.2.1/\x.2.1<f.2.2.1.length/\0<=x.2.2.2.1/\x.2.2.2.1<=9)/\bt s.2.2/\s.2.2.length<=100000000000000)
  (λr=>bt r.2/\r.2.length<=s.2.2.length+80*8200/\Ap (GH λn=>∃ x∈f.2.2.2.1,x.1=n) s.2.2 r.2):=⟨λh=>by
 have hA:∀ x∈f.2.2.2.1,(nL x.1/\0<=x.2.1/\x.2.1<f.2.2.1.length/\0<=x.2.2.2.1/\x.2.2.2.1<=9)/\∀ r,Fd x.1 r->Li (GH λn=>∃ x∈f.2.2.2.1,x.1=n) r:=λx U=>⟨h.2.2.1 x U,λr k=>zi8 (h.2.2.1 x U).1 ⟨x,U,rfl⟩ k⟩
 generalize (GH λn=>∃ x∈f.2.2.2.1,x.1=n)=P at *
 have a0:=z06 P s.2.2
 have a1:=λ{c t} => @z6d P s.2.2 c t
 unfold oF oH
 exact NJ f.2.2.2.1 (zb qw) (λ(i,_,_)=>i) _ (λ_=>True) (λ(i,_,c)=>0<=i/\i<=8200/\bt c/\(c.length:Int)<=s.2.2.length+80*i/\Ap P s.2.2 c) hA⟩
instance (i:Int) (l:List Check) (s:Int×Unit×List Int):Sp (oG i l (l.length:Int) s) (s.1=0/\l.length<=8200/\(∀ x∈l,nL x.1/\0<=x.2.2.1/\x.2.2.1<3/\EW KK x.2.2.2.1/\EW KK x.2.2.2.2.1)/\bt s.2.2/\s.2.2.length<=100000000000000)
  (λr=>bt r.2/\r.2.length<=s.2.2.length+1331400*8200/\Ap (GH λn=>∃ x∈l,x.1=n) s.2.2 r.2):=⟨λh=>by
 have hA:∀ x∈l,(nL x.1/\0<=x.2.2.1/\x.2.2.1<3/\EW KK x.2.2.2.1/\EW KK x.2.2.2.2.1)/\∀ r,Sd r->Li (GH λn=>∃ x∈l,x.1=n) (cat (cat [99,104,101,99,107,32] x.1) r):=λx U=>⟨h.2.2.1 x U,λr k=>zi7 (h.2.2.1 x U).1 ⟨x,U,rfl⟩ k⟩
 generalize (GH λn=>∃ x∈l,x.1=n)=P at *
 have a0:=z06 P s.2.2
 have a1:=λ{c t} => @z6d P s.2.2 c t
 have hn:∀ (l:List zo) (i:Int),(l.length=3/\∀ s∈l,s.length<=2/\cl s)->0<=i->i<3->(nth l i (zb .str)).length<=2/\cl (nth l i (zb .str)):=λl i h h0 h1=>h.2 _ (xo h0 (Z))
 unfold oG
 refine cK l (zb xk) (λ(i,_,_)=>i) _ (λ_=>True) (λ(i,_,c)=>0<=i/\i<=8200/\bt c/\(c.length:Int)<=s.2.2.length+1331400*i/\Ap P s.2.2 c) hA (by obtain⟨i,u,c⟩:=s; obtain rfl:i=0:=h.1; exact⟨rfl,qj,qj,h.2.2.2.1,by show(c.length:Int)<=c.length+_*0; omega,a0⟩) ?_ ?_
 ·rintro⟨j,u,c⟩ x ⟨j0,j1,J,hc,ha⟩ ⟨U,hy⟩ e i0 i1
  unfold fu
  dsimp only at *
  rw[e]
  have hw:ql (j+1)=j+1:=qv (Z) (Z)
  have n1:=U.1.1
  have X:=h.2.1
  have h5:=h.2.2.2.2
  refine T.vy (decide_eq_true i1) (T.qq ⟨i0,i1⟩ (T.zf (λ_=>T.vq (by simp; omega) (T.za trivial λv hv => ?_)) λ_=>T.zc (T.z8 (T.ze ?_))))
  ·have Hn:=hn v x.2.2.1 hv U.2.1 U.2.2.1
   refine T.zj ⟨U.2.1,Int.lt_of_lt_of_le U.2.2.1 (by have:=hv.1; omega)⟩ (T.za ⟨by rw[Vj]; exact U.2.2.2.1,by rw[Vj]; exact U.2.2.2.2,Hn⟩ λt ht => ?_)
   have lt:(cat (cat [99,104,101,99,107,32] x.1) t).length<=1331400:=by rw[dO,dO]; have:=ht.1; simp; omega
   refine T.vq (by rw[dO]; have:=ht.1; simp; omega) (T.zc (T.z8 (T.za (Z) λ⟨_,_,d⟩ hz=>T.zc (T.z8 (T.ze ?_)))))
   have hz:d=_:=hz
   subst hz
   rw[hw]
   dsimp only
   exact⟨rfl,⟨Z,Z,Vd J _,by rw[List.length_append,ez]; omega,a1 ha (hy t ht.2)⟩,trivial⟩
  ·rw[hw]
   dsimp only
   exact⟨rfl,⟨Z,Z,J,Z,ha⟩,trivial⟩
 ·rintro⟨j,u,c⟩ ⟨j0,j1,J,hc,ha⟩ e _
  unfold fu
  dsimp only at *
  exact T.wk (decide_eq_false (Z)) (T.zc (T.z8 (T.ze ⟨J,by have:=h.2.1; show c.length<=_; omega,ha⟩)))⟩
def FV(f:Form):Prop:=FW 8200 f/\FO f
instance (f:Form) (i:Int) (c:List Int):Sp (pK f i () c) (FV f/\0<=i/\i<f.2.2.1.length/\bt c/\c.length<=91000000000000) (λr=>bt r.2/\r.2.length<=c.length+10920000000/\Ag (fm f) c r.2 [WR (nth f.2.2.1 i (zb xi))]):=⟨λh=>by
 have h1:=h.1.2.2.2.1 _ (xo (d:=zb xi) h.2.1 h.2.2.1)
 obtain⟨⟨hw,ho⟩,X⟩:=h
 have h3:=hw.2.2.2.1.1
 have h4:=ho.2.2.2.1
 have h5:=hw.2.2.2.2.2.1
 have h6:=λ(x:Check) U=>(⟨(ho.2.2.2.2.2 x U).1,(ho.2.2.2.2.2 x U).2.1,(ho.2.2.2.2.2 x U).2.2.1,(hw.2.2.2.2.2.2 x U).2⟩:nL x.1/\0<=x.2.2.1/\x.2.2.1<3/\EW KK x.2.2.2.1/\EW KK x.2.2.2.2.1)
 have h7:=ho.2.2.1 _ (xo (d:=zb xi) X.1 X.2.1)
 have fin:∀ d e w,w=Cm (nth f.2.2.1 i (zb xi)).2.1->Ap (GH λn=>∃ x∈f.2.2.2.1,x.1=n) (c++bytesOf (cat (cat (cat [112,97,103,101,32] (nth f.2.2.1 i (zb xi)).1) w) [10])) d->Ap (GH λn=>∃ x∈f.2.2.2.2.2.1,x.1=n) d e->Ag (fm f) c e [WR (nth f.2.2.1 i (zb xi))]:=λd e w q k1 k2=>by
  subst q
  exact z05 (zn7 (N:=fm f) h7.1 h7.2 c) (z05 (z04 k1 λn h=>.inr (.inl h)) (z04 k2 λn h=>.inr (.inr (.inr h))))
 unfold pK
 refine T.qq ⟨X.1,X.2.1⟩ (T.vq (by have:=h7.1.1; simp; omega) (T.qq ⟨X.1,X.2.1⟩ (T.za (by have:=h7.2.1; omega) λw hw => ?_)))
 have l1:(cat (cat (cat [112,97,103,101,32] (nth f.2.2.1 i (zb xi)).1) w) [10]).length<=100:=by rw[dO,dO,dO]; have:=hw.1; have:=h7.1.1; have:=h7.2.1; simp; omega
 have l2:=l1
 rw[dO,List.length_singleton]at l2
 refine T.vq (by rw[dO]at l2; omega) (T.vq (by simp; omega) (T.zc (T.z8 (T.za (Z) λ⟨_,_,d⟩ V=>T.zc (T.z8 ?_)))))
 have V:d=_:=V
 subst V
 refine T.za ⟨rfl,h3,h4,Vd X.2.2.1 _,by show List.length (_++_)<=_; rw[List.length_append,ez]; omega⟩ λ⟨_,d⟩ V=>T.zc (T.z8 (T.za ⟨rfl,h5,h6,V.1,?_⟩ λ⟨_,e⟩ he=>T.zc (T.z8 (T.ze ⟨he.1,?_,fin d e w hw.2 V.2.2 he.2.2⟩))))
 all_goals
  have q1:=V.2.1
  simp only[List.length_append,ez]at q1
  try have q2:=he.2.1
  simp only at *
  omega⟩
instance (f:Form) (s:Int×Unit×List Int):Sp (sB f f.1 (f.1.length:Int) s) (s.1=0/\f.1.length<=8200/\(∀ x∈f.1,nL x.1)/\bt s.2.2/\s.2.2.length<=100) (λr=>bt r.2/\r.2.length<=1000000/\r.2=s.2.2++bytesOf (tx (swl f.1))):=⟨λh=>by
 obtain⟨K,K0,K1,K2⟩:∃ K:Int->List Int,K 0=s.2.2/\(∀ i:Int,0<=i->i<f.1.length->K i++bytesOf (cat (cat [115,119,105,116,99,104,32] (nth f.1 i (zb qe)).1) (onS (nth f.1 i (zb qe)).2.1))=K (i+1))/\K f.1.length=s.2.2++bytesOf (tx (swl f.1)):=by
  refine⟨λi=>s.2.2++bytesOf (tx (swl (f.1.take i.toNat))),by simp[swl,tx,bytesOf],λi h0 h1 => ?_,qu⟩
  obtain⟨j,rfl,e⟩:=zib (h.2.2.1 _ (xo (d:=zb qe) h0 h1)) (nth f.1 i (zb qe)).2.1
  dsimp only
  rw[cU f.1 i (zb qe) h0 h1,e]
  simp only[swl,qW,List.map_singleton,DW,zeE,CG,qR]
 unfold sB sF
 simp only[show ∀ b:Bool,(bif b then([32,111,110,10]:zo)else[32,111,102,102,10])=onS b from λ_=>rfl]
 have:∀ b,(onS b).length<=5:=qj
 have:([115,119,105,116,99,104,32]:zo).length=7:=rfl
 exact NJ f.1 (zb qe) (λ(i,_,_)=>i) _ (λ_=>True) (λ(i,_,c)=>0<=i/\i<=8200/\bt c/\(c.length:Int)<=s.2.2.length+40*i/\c=K i) h.2.2.1⟩
instance (f:Form) (s:Int×Unit×List Int):Sp (sC f f.2.1 (f.2.1.length:Int) s) (s.1=0/\f.2.1.length<=8200/\(∀ x∈f.2.1,nL x.1/\rg x.2.1/\rl x.2.1<=16)/\bt s.2.2/\s.2.2.length<=1000000) (λr=>bt r.2/\r.2.length<=10000000/\Ap (GH λn=>∃ x∈f.2.1,x.1=n) s.2.2 r.2):=⟨λh=>by
 have hA:∀ x∈f.2.1,(nL x.1/\rg x.2.1/\rl x.2.1<=16)/\∀ e,cl e->Li (GH λn=>∃ x∈f.2.1,x.1=n) (cat (cat (cat (cat [112,97,114,97,109,32] x.1) [32]) e) [10]):=λx U=>⟨h.2.2.1 x U,λr k=>zi9 (h.2.2.1 x U).1 ⟨x,U,rfl⟩ k⟩
 generalize (GH λn=>∃ x∈f.2.1,x.1=n)=P at *
 have a0:=z06 P s.2.2
 have a1:=λ{c t} => @z6d P s.2.2 c t
 unfold sC sG
 exact NJ f.2.1 (zb qg) (λ(i,_,_)=>i) _ (λ_=>True) (λ(i,_,c)=>0<=i/\i<=8200/\bt c/\(c.length:Int)<=s.2.2.length+800*i/\Ap P s.2.2 c) hA⟩
instance (f:Form) (s:Int×Unit×List Int):Sp (sD f (f.2.2.1.length:Int) s) (s.1=0/\FV f/\bt s.2.2/\s.2.2.length<=10000000) (λr=>bt r.2/\r.2.length<=90000000000000/\Ag (fm f) s.2.2 r.2 (f.2.2.1.map WR)):=⟨λh=>by
 obtain⟨K,K0,K1,K2⟩:∃ K:Int->List (zo×zo),Ag (fm f) s.2.2 s.2.2 (K 0)/\(∀ (i:Int) (c c':List Int),0<=i->i<f.2.2.1.length->Ag (fm f) s.2.2 c (K i)->Ag (fm f) c c' [WR (nth f.2.2.1 i (zb xi))]->Ag (fm f) s.2.2 c' (K (i+1)))/\K f.2.2.1.length=f.2.2.1.map WR:=by
  refine⟨λi=>(f.2.2.1.take i.toNat).map WR,z04 (z06 (GH (fm f)) _) λn h=>h,λi c c' h0 h1 k1 k2 => ?_,qu⟩
  have:=z05 k1 k2
  dsimp only
  rw[cU f.2.2.1 i (zb xi) h0 h1,qW]
  exact this
 have hw:=h.2.1.1.2.2.1.1
 unfold sD sH
 exact NJ f.2.2.1 (zb xi) (λ(i,_,_)=>i) (λ_=>True) (λ_=>True) (λ(i,_,c)=>0<=i/\i<=8200/\bt c/\(c.length:Int)<=s.2.2.length+10920000000*i/\Ag (fm f) s.2.2 c (K i)) (λ_ _=>trivial)⟩
instance (l:List cx) (s:Int×Unit×List Int):Sp (sE l (l.length:Int) s) (s.1=0/\l.length<=8200/\(∀ x∈l,nL x.1/\0<=x.2.1/\x.2.1<4/\wL x.2.2.1/\EW KK x.2.2.2.1/\EW KK x.2.2.2.2.1)/\bt s.2.2/\s.2.2.length<=90000000000000) (λr=>bt r.2/\r.2.length<=100000000000000/\Ap (GH λn=>∃ x∈l,x.1=n) s.2.2 r.2):=⟨λh=>by
 have hA:∀ x∈l,(nL x.1/\0<=x.2.1/\x.2.1<4/\wL x.2.2.1/\EW KK x.2.2.2.1/\EW KK x.2.2.2.2.1)/\∀ t f r,t∈stg->f=Cm x.2.2.1->Sd r->Li (GH λn=>∃ x∈l,x.1=n) (cat (cat (cat (cat (cat [114,117,108,101,32] t) [32]) x.1) f) r):=λx U=>⟨h.2.2.1 x U,λt f r h1 X k=>X▸zia h1 (h.2.2.1 x U).1 ⟨x,U,rfl⟩ (h.2.2.1 x U).2.2.2.1 k⟩
 generalize (GH λn=>∃ x∈l,x.1=n)=P at *
 have a0:=z06 P s.2.2
 have a1:=λ{c t} => @z6d P s.2.2 c t
 have c1:cl [61]:=qj
 have hn:∀ (l:List zo) (i:Int),(l.length=4/\(∀ s∈l,s.length<=8)/\l=stg)->0<=i->i<4->(nth l i (zb .str)).length<=8/\nth l i (zb .str)∈stg:=λl i h h0 h1=>⟨h.2.1 _ (xo h0 (Z)),h.2.2▸xo h0 (Z)⟩
 unfold sE
 refine cK l (zb xn) (λ(i,_,_)=>i) _ (λ_=>True) (λ(i,_,c)=>0<=i/\i<=8200/\bt c/\(c.length:Int)<=s.2.2.length+1400000*i/\Ap P s.2.2 c) hA (by obtain⟨i,u,c⟩:=s; obtain rfl:i=0:=h.1; exact⟨rfl,qj,qj,h.2.2.2.1,by show(c.length:Int)<=c.length+_*0; omega,a0⟩) ?_ ?_
 ·rintro⟨j,u,c⟩ x ⟨j0,j1,J,hc,ha⟩ ⟨U,hy⟩ e i0 i1
  unfold lM
  dsimp only at *
  rw[e]
  have hw:ql (j+1)=j+1:=qv (Z) (Z)
  have n1:=U.1.1
  have n2:=U.2.2.2.1.1
  have X:=h.2.1
  have h5:=h.2.2.2.2
  refine T.vy (decide_eq_true i1) (T.qq ⟨i0,i1⟩ (T.za trivial λv hv => ?_))
  have Hn:=hn v x.2.1 hv U.2.1 U.2.2.1
  generalize nth v x.2.1 (zb .str)=t at *
  have l0:=Hn.1
  have l1:(cat (cat (cat [114,117,108,101,32] t) [32]) x.1).length<=40:=by rw[dO,dO,dO]; simp; omega
  refine T.zj ⟨U.2.1,Int.lt_of_lt_of_le U.2.2.1 (by have:=hv.1; omega)⟩ (T.vq (by simp; omega) (T.vq (by rw[dO]; simp; omega) (T.vq (by rw[dO,dO]; simp; omega) (T.za (Z) λw Ux=>T.vq (by have:=Ux.1; omega) (T.za ⟨by rw[Vj]; exact U.2.2.2.2.1,by rw[Vj]; exact U.2.2.2.2.2,qj,c1⟩ λr hr => ?_)))))
  have l2:(cat (cat (cat (cat (cat [114,117,108,101,32] t) [32]) x.1) w) r).length<=1400000:=by rw[dO,dO]; have:=Ux.1; have:=hr.1; omega
  refine T.vq (by have:=l2; rw[dO]at this; omega) (T.zc (T.z8 (T.za (Z) λ⟨_,_,d⟩ hz=>T.zc (T.z8 (T.ze ?_)))))
  have hz:d=_:=hz
  subst hz
  rw[hw]
  dsimp only
  exact⟨rfl,⟨Z,Z,Vd J _,by rw[List.length_append,ez]; omega,a1 ha (hy t w r Hn.2 Ux.2 hr.2)⟩,trivial⟩
 ·rintro⟨j,u,c⟩ ⟨j0,j1,J,hc,ha⟩ e _
  unfold lM
  dsimp only at *
  exact T.wk (decide_eq_false (Z)) (T.zc (T.z8 (T.ze ⟨J,by have:=h.2.1; have:=h.2.2.2.2; show c.length<=_; omega,ha⟩)))⟩
theorem cz0:zu 0 0 0 0:=⟨rfl,rfl,rfl⟩
instance (f:Form):Sp (nX f) (FV f) (λr=>Tx f r):=⟨λh=>by
 have hv:=h
 have fin:=λ{b c d e} => @zfu f b c d e h.2.1
 have e:bt []:=λ_ h=>nomatch h
 obtain⟨⟨⟨a1,_⟩,⟨a2,b2⟩,_,_,⟨a5,b5⟩,_⟩,c1,c2,_,_,c5,_⟩:=h
 have h1:=λ(x:Param) U=>(⟨(c2 x U).1,(b2 x U).2.1,(c2 x U).2⟩:nL x.1/\rg x.2.1/\rl x.2.1<=16)
 have X:=λ(x:cx) U=>(⟨(c5 x U).1,(c5 x U).2.1,(c5 x U).2.2.1,(c5 x U).2.2.2.1,(b5 x U).2.2⟩:nL x.1/\0<=x.2.1/\x.2.1<4/\wL x.2.2.1/\EW KK x.2.2.2.1/\EW KK x.2.2.2.2.1)
 have h3:∀ l,bt l->∀ n∈l,(0:Int)<=n/\n<256:=λ_ h=>h
 clear b2 b5 c2 c5
 unfold nX pZ z4n oZ
 refine T.zj cz0 (T.zj rfl (T.za ⟨rfl,a1,c1,e,qj⟩ λ⟨_,b⟩ J=>T.zc (T.z8 (T.za ⟨rfl,a2,h1,J.1,J.2.1⟩ λ⟨_,c⟩ hc=>T.zc (T.z8 (T.za ⟨rfl,hv,hc.1,hc.2.1⟩ λ⟨_,d⟩ V=>T.zc (T.z8 (T.za ⟨rfl,a5,X,V.1,V.2.1⟩ λ⟨_,e⟩ he=>T.zc (T.z8 ?_)))))))))
 exact T.xf (T.zj ⟨h3 _ he.1,zN he.2.1 (qj)⟩ (T.ze (T.ze (fin (by have:=J.2.2; rw[List.nil_append]at this; exact this) hc.2.2 V.2.2 he.2.2))))⟩
instance (f:Form):Sp (Zw f) (FW 8200 f) (λr=>r=true->FV f):=⟨λh=>by
 have hk:FW KK f:=by obtain⟨⟨a1,b1⟩,⟨a2,b2⟩,⟨a3,b3⟩,⟨a4,b4⟩,⟨a5,b5⟩,a6,b6⟩:=h; unfold FW KK; exact⟨⟨Z,b1⟩,⟨Z,b2⟩,⟨Z,b3⟩,⟨Z,b4⟩,⟨Z,b5⟩,Z,b6⟩
 unfold Zw
 refine T.za hk λb J=>T.zf (λe=>T.za h λc hc=>T.zf (λe1=>T.za h λd V=>T.zf (λe2 => ?_) λ_=>T.ze nofun) λ_=>T.ze nofun) λ_=>T.ze nofun
 have hv:FV f:=⟨h,(J e).1,(J e).2.1,(J e).2.2,hc e1,V e2⟩
 exact T.za hv λ_ _=>T.ze λ_=>hv⟩
open T PL
def ss(l:List zo):Prop:=∀ s∈l,s.length<=KK
theorem z4k{a:List zo}(h:ss a){s:zo}(hs:s.length<=KK):ss (a++[s]):=λx U=>by
 rcases zS.1 U with k | k
 ·exact h x k
 ·rw[zV.1 k]; exact hs
theorem MT:ss []:=λ_ h=>nomatch h
theorem Fe{p:Prop} (h:p:=by
 intros
 repeat' (with_reducible first
  | refine T.ze ?_
  | refine T.zf (λ_ => ?_) (λ_ => ?_)
  | refine T.z8 ?_
  | refine T.zc ?_
  | refine T.uH ?_ ?_
  | refine T.qq ?_ ?_
  | refine T.vX ?_ ?_
  | refine T.vq ?_ ?_
  | refine T.zj ?_ ?_
  | refine T.vY (λ_ _ => ?_) (λ_ _ => ?_)
  | refine T.za ?_ (λ_ _ => ?_)
  | refine T.vG ?_ (λ_ _ => ?_)
  | refine T.xf ?_
  | dsimp only)
 all_goals grind [xb,uT,eY,jJ,ub,ja,WL,Vj,z4k,MT,List.length_append,ym,E7,Bb]):p:=h
theorem rI{σ ρ α:Type}(l:List α)(d:α)(ix:σ->Int)(A P:α->Prop)(hb:σ->Prop)(hA:∀ x∈l,A x){r:σ->T (σ⊕ρ)}{Q:ρ->Prop}{s:σ}(hs:ix s=0/\hb s:=by grind [MT])
  (step:∀ s x,hb s->A x->nth l (ix s) d=x->0<=ix s->ix s<l.length->(r s).wp λz=>match z with | .inl s'=>ix s'=ix s+1/\hb s'/\P x | .inr y=>Q y:=by
 intros
 repeat' (with_reducible first
  | refine T.ze ?_
  | refine T.zf (λ_ => ?_) (λ_ => ?_)
  | refine T.z8 ?_
  | refine T.zc ?_
  | refine T.uH ?_ ?_
  | refine T.qq ?_ ?_
  | refine T.vX ?_ ?_
  | refine T.vq ?_ ?_
  | refine T.zj ?_ ?_
  | refine T.vY (λ_ _ => ?_) (λ_ _ => ?_)
  | refine T.za ?_ (λ_ _ => ?_)
  | refine T.vG ?_ (λ_ _ => ?_)
  | refine T.xf ?_
  | dsimp only)
 all_goals grind [xb,uT,eY,jJ,ub,ja,WL,Vj,z4k,MT,List.length_append,ym,E7,Bb])
  (done:∀ s,hb s->ix s=l.length->(∀ x∈l,P x)->(r s).wp λz=>match z with | .inl _=>False | .inr y=>Q y:=by
 intros
 repeat' (with_reducible first
  | refine T.ze ?_
  | refine T.zf (λ_ => ?_) (λ_ => ?_)
  | refine T.z8 ?_
  | refine T.zc ?_
  | refine T.uH ?_ ?_
  | refine T.qq ?_ ?_
  | refine T.vX ?_ ?_
  | refine T.vq ?_ ?_
  | refine T.zj ?_ ?_
  | refine T.vY (λ_ _ => ?_) (λ_ _ => ?_)
  | refine T.za ?_ (λ_ _ => ?_)
  | refine T.vG ?_ (λ_ _ => ?_)
  | refine T.xf ?_
  | dsimp only)
 all_goals grind):(T.loop r s).wp Q:=cK l d ix A P hb hA hs step done
instance (f:Form) (s:Int×List zo):Sp (rh f f.1 (f.1.length:Int) s) (s.1=0/\f.1.length<=8200/\(∀ x∈f.1,x.1.length<=KK)/\ss s.2/\s.2.length<=100000) (λr=>ss r/\r.length<=s.2.length+f.1.length):=⟨λh=>by
 unfold rh rA
 exact rI f.1 (zb qe) (λ(i,_)=>i) _ (λ_=>True) (λ(i,c)=>0<=i/\i<=f.1.length/\ss c/\(c.length:Int)<=s.2.length+i) h.2.2.1⟩
instance (f:Form) (s:Int×List zo):Sp (ri f f.2.1 (f.2.1.length:Int) s) (s.1=0/\f.2.1.length<=8200/\(∀ x∈f.2.1,x.1.length<=KK)/\ss s.2/\s.2.length<=100000) (λr=>ss r/\r.length<=s.2.length+f.2.1.length):=⟨λh=>by
 unfold ri rB
 exact rI f.2.1 (zb qg) (λ(i,_)=>i) _ (λ_=>True) (λ(i,c)=>0<=i/\i<=f.2.1.length/\ss c/\(c.length:Int)<=s.2.length+i) h.2.2.1⟩
instance (f:Form) (s:Int×List zo):Sp (rj f f.2.2.1 (f.2.2.1.length:Int) s) (s.1=0/\f.2.2.1.length<=8200/\(∀ x∈f.2.2.1,x.1.length<=KK)/\ss s.2/\s.2.length<=100000) (λr=>ss r/\r.length<=s.2.length+f.2.2.1.length):=⟨λh=>by
 unfold rj rC
 exact rI f.2.2.1 (zb xi) (λ(i,_)=>i) _ (λ_=>True) (λ(i,c)=>0<=i/\i<=f.2.2.1.length/\ss c/\(c.length:Int)<=s.2.length+i) h.2.2.1⟩
instance (f:Form) (s:Int×List zo):Sp (rm f f.2.2.2.1 (f.2.2.2.1.length:Int) s) (s.1=0/\f.2.2.2.1.length<=8200/\(∀ x∈f.2.2.2.1,x.1.length<=KK)/\ss s.2/\s.2.length<=100000) (λr=>ss r/\r.length<=s.2.length+f.2.2.2.1.length):=⟨λh=>by
 unfold rm rD
 exact rI f.2.2.2.1 (zb qw) (λ(i,_)=>i) _ (λ_=>True) (λ(i,c)=>0<=i/\i<=f.2.2.2.1.length/\ss c/\(c.length:Int)<=s.2.length+i) h.2.2.1⟩
instance (f:Form) (s:Int×List zo):Sp (rq f f.2.2.2.2.1 (f.2.2.2.2.1.length:Int) s) (s.1=0/\f.2.2.2.2.1.length<=8200/\(∀ x∈f.2.2.2.2.1,x.1.length<=KK)/\ss s.2/\s.2.length<=100000) (λr=>ss r/\r.length<=s.2.length+f.2.2.2.2.1.length):=⟨λh=>by
 unfold rq rE
 exact rI f.2.2.2.2.1 (zb xn) (λ(i,_)=>i) _ (λ_=>True) (λ(i,c)=>0<=i/\i<=f.2.2.2.2.1.length/\ss c/\(c.length:Int)<=s.2.length+i) h.2.2.1⟩
instance (l:List Check) (s:Int×List zo):Sp (ry l (l.length:Int) s) (s.1=0/\l.length<=8200/\(∀ x∈l,x.1.length<=KK)/\ss s.2/\s.2.length<=100000) (λr=>ss r/\r.length<=s.2.length+l.length):=⟨λh=>by
 unfold ry rF
 exact rI l (zb xk) (λ(i,_)=>i) _ (λ_=>True) (λ(i,c)=>0<=i/\i<=l.length/\ss c/\(c.length:Int)<=s.2.length+i) h.2.2.1⟩
instance (f:Form) (s:Int×List zo):Sp (fy f f.2.2.1 (f.2.2.1.length:Int) s) (s.1=0/\f.2.2.1.length<=8200/\(∀ x∈f.2.2.1,x.2.1.length<=KK)/\ss s.2/\s.2.length<=100000) (λr=>ss r/\r.length<=s.2.length+f.2.2.1.length):=⟨λh=>by
 unfold fy fB
 exact rI f.2.2.1 (zb xi) (λ(i,_)=>i) _ (λ_=>True) (λ(i,c)=>0<=i/\i<=f.2.2.1.length/\ss c/\(c.length:Int)<=s.2.length+i) h.2.2.1⟩
instance (f:Form) (s:Int×List zo):Sp (fA f f.2.2.2.2.1 (f.2.2.2.2.1.length:Int) s) (s.1=0/\f.2.2.2.2.1.length<=8200/\(∀ x∈f.2.2.2.2.1,x.2.2.1.length<=KK)/\ss s.2/\s.2.length<=100000) (λr=>ss r/\r.length<=s.2.length+f.2.2.2.2.1.length):=⟨λh=>by
 unfold fA fD
 exact rI f.2.2.2.2.1 (zb xn) (λ(i,_)=>i) _ (λ_=>True) (λ(i,c)=>0<=i/\i<=f.2.2.2.2.1.length/\ss c/\(c.length:Int)<=s.2.length+i) h.2.2.1⟩
instance (f:Form) (s:Int×List zo):Sp (o9 f f.2.2.2.1 (f.2.2.2.1.length:Int) s) (s.1=0/\f.2.2.2.1.length<=8200/\(∀ x∈f.2.2.2.1,x.1.length<=KK)/\ss s.2/\s.2.length<=100000) (λr=>ss r/\r.length<=s.2.length+f.2.2.2.1.length):=⟨λh=>by
 unfold o9 ob
 exact rI f.2.2.2.1 (zb qw) (λ(i,_)=>i) _ (λ_=>True) (λ(i,c)=>0<=i/\i<=f.2.2.2.1.length/\ss c/\(c.length:Int)<=s.2.length+i) h.2.2.1⟩
instance (f:Form):Sp (sZ f) (FV f) (λr=>ss r/\r.length<=50000):=⟨λh=>by
 obtain⟨⟨⟨a1,b1⟩,⟨a2,b2⟩,⟨a3,b3⟩,⟨a4,b4⟩,⟨a5,b5⟩,a6,b6⟩,_⟩:=h
 have b2:=λx U=>(b2 x U).1
 have b3:=λx U=>(b3 x U).1
 have b5:=λx U=>(b5 x U).1
 have b6:=λx U=>(b6 x U).1
 unfold sZ oZ
 exact Fe⟩
instance (l:List zo):Sp (ta l) (ss l/\l.length<=50000) (λ_=>True):=⟨λh=>by
 unfold ta
 exact T.zj ⟨Z,λs hs=>zN (h.1 s hs) (by unfold KK; omega)⟩ (T.ze trivial)⟩
instance (a:Switch) (s:zo):Sp (vZ a s) True (λ_=>True):=⟨λ_=>by unfold vZ; exact Fe⟩
instance (s:zo) (f:Form):Sp (jZ s f) (f.1.length<=8200) (λ_=>True):=⟨λh=>by unfold jZ; exact Fe⟩
instance (a:List zo) (c:zo->T Bool) (p:zo->Prop) (P:zo->Bool->Prop) [∀ x,Sp (c x) (p x) (P x)]:Sp (wX a c) (a.length<=1000000000000/\∀ x∈a,p x) (Bb a P (zb .str)):=⟨ixq⟩
instance (a:List zo) (c:zo->T Bool) (p:zo->Prop) (P:zo->Bool->Prop) [∀ x,Sp (c x) (p x) (P x)]:Sp (kP a c) (a.length<=1000000000000/\∀ x∈a,p x) (E7 a P):=⟨λh=>cnq (Sp.sp h)⟩
instance (f:Form):Sp (ff f) (FV f) (λ_=>True):=⟨λh=>by
 obtain⟨⟨⟨a1,b1⟩,⟨a2,b2⟩,⟨a3,b3⟩,⟨a4,b4⟩,⟨a5,b5⟩,a6,b6⟩,_⟩:=h
 have b3:=λx U=>(b3 x U).2
 have b5:=λx U=>(b5 x U).2.1
 unfold ff oZ
 exact Fe⟩
instance (a:List zo) (c:zo) (s:Int):Sp (gI a c (a.length:Int) s) (s=0/\a.length<=1000000) (λr=>match r with | .inl _=>True | .inr i=>0<=i/\i<a.length):=⟨λh=>by
 unfold gI gJ
 exact rI a (zb .str) (λ(i:Int)=>i) (λ_=>True) (λ_=>True) (λ(i:Int)=>i<=1000000) (λ_ _=>trivial)⟩
instance (a:List zo) (c:zo):Sp (wG a c) (a.length<=1000000) (λr => -1<=r/\r<a.length):=⟨λh=>by unfold wG; exact Fe⟩
instance (a:List zo) (c:zo):Sp (wP a c) (a.length<=1000000) (λ_=>True):=⟨λh=>by unfold wP; exact Fe⟩
end Go.AM.Lf
