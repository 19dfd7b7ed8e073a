/-
  Plain laws of the lifted program, part 0.
-/
import Derived.Test.YtgnfpdlhibjeeaaGreatDoorLf1
import Derived.Test.YtgnfpdlhibjeeaaGreatDoorAmA
import Derived.Test.YtgnfpdlhibjeeaaGreatDoorAmD
import Derived.KernelRfl
set_option linter.unusedVariables false
open Int renaming toNat_natCast -> zA, eq_ofNat_of_zero_le -> qO, tdiv -> xK, tmod -> xL
open Nat renaming mul_le_mul_right -> Y, mul_comm -> R, pow_succ -> zE, lt_of_le_of_lt -> zF, mul_le_mul_left -> zI, gcd -> zJ, div_lt_iff_lt_mul -> zL, le_div_iff_mul_le -> zM, le_trans -> zN, pos_of_ne_zero -> zO, le_refl -> zP, strongRecOn -> zR, pow_pos -> zU, lt_of_mul_lt_mul_right -> zW, mod_lt -> zX, pow_le_pow_right -> zZ, pow_add -> qB, eq_zero_or_pos -> qC, div_add_mod -> qD, mul_lt_mul_of_pos_right -> qE, add_comm -> qH, add_zero -> qI, div_eq_of_lt -> qJ, mul_assoc -> qK, div_le_self -> qM, xor_lt_two_pow -> qN, mul_add -> qP, div_div_eq_div_mul -> qT, mod_eq_of_lt -> qV, div_mul_le_self -> qY, mul_le_mul -> xA, mul_lt_mul_of_lt_of_le -> xB, eq_of_mul_eq_mul_left -> xC, or_lt_two_pow -> xD, zero_le -> xE, add_assoc -> xF, and_le_left -> xH, gcd_le_left -> xI, mul_mod_mul_right -> xJ
open List renaming replicate -> I, eq_nil_of_length_eq_zero -> zG, take_of_length_le -> zK, getD_eq_getElem?_getD -> zQ, mem_append -> zS, take_set_of_le -> zT, mem_singleton -> zV, length_replicate -> zY, flatMap_append -> qA, drop_drop -> qF, drop_zero -> qG, append_assoc -> qR, take_succ_eq_append_getElem -> qS, getElem?_eq_none -> qU, map_append -> qW, replicate_succ -> qX, getElem?_take -> qZ, length_eq_zero_iff -> xG, mem_of_mem_drop -> xM, mem_of_mem_take -> xN, drop -> xO, mem_map -> xP
open BitVec renaming ofInt -> zH
open SizeOf renaming sizeOf -> qL
open Go.IntKind renaming wrap -> qQ
open Sum renaming elim -> xQ
open Go.AM.T (Hn IQ Js Vm W6 WA XL bG gx ik ji lH rf tQ vK vP xg xy zaL zt)
namespace Go.AM.PL
def nv:List Int->Nat
 | []=>0
 | x::l=>x.toNat+4294967296*nv l
def qx(l:List Int):Prop:=∀ x∈l,0<=x/\x<4294967296
def vU(n:Nat):List Int:=if h:n=0 then[]else((n % 4294967296:Nat):Int)::vU (n / 4294967296)
termination_by n
decreasing_by omega
theorem gY:vU 0=[]:=by rw[vU]; rfl
theorem WE{n:Nat}(h:n≠0):vU n=((n % 4294967296:Nat):Int)::vU (n / 4294967296):=by rw[vU,dif_neg h]
theorem vJ:qx []:=λ_ h=>nomatch h
theorem bp{x:Int}{l:List Int}:qx (x::l)↔(0<=x/\x<4294967296)/\qx l:=by
 unfold qx; simp
theorem UX{a b:List Int}:qx (a++b)↔qx a/\qx b:=by
 unfold qx; simp
 grind
theorem VJ{a:List Int}(h:qx a)(n:Nat):qx (a.take n):=λx U=>h x (xN U)
theorem sq{a:List Int}(h:qx a)(n:Nat):qx (a.drop n):=λx U=>h x (xM U)
theorem vT(n:Nat):qx (I n 0):=λx U=>by
 grind
theorem C3{a:List Int}(h:qx a)(i:Nat){x:Int}(h0:0<=x)(h1:x<4294967296):qx (a.set i x):=λy hy=>by
 rcases List.mem_or_eq_of_mem_set hy with h' | h'
 ·exact h y h'
 ·grind
theorem fX{a:List Int}(h:qx a)(i:Int):0<=nth a i 0/\nth a i 0<4294967296:=by
 unfold nth
 rw[zQ]
 cases U:a[i.toNat]? with
 | none=>simp
 | some x=>exact h x (List.mem_of_getElem? U)
theorem wK(n:Nat):qx (vU n):=by
 induction n using zR with
 | _ n ih =>
  by_cases h:n=0
  ·subst h; rw[gY]; exact vJ
  ·rw[WE h]
   exact bp.2 ⟨Z,ih _ (Z)⟩
@[simp] theorem z4g:nv []=0:=rfl
@[simp] theorem WC(x:Int)(l:List Int):nv (x::l)=x.toNat+4294967296*nv l:=rfl
@[simp] theorem jA(n:Nat):nv (vU n)=n:=by
 induction n using zR with
 | _ n ih =>
  by_cases h:n=0
  ·subst h; rw[gY]; rfl
  ·rw[WE h,WC,ih _ (Z)]; omega
theorem rj(a b:List Int):nv (a++b)=nv a+4294967296 ^ a.length*nv b:=by
 induction a with
 | nil=>simp
 | cons x a ih=>simp only[List.cons_append,WC,ih,List.length_cons,zE,qP]; rw[<- qK,R 4294967296 (4294967296 ^ a.length)]; omega
theorem GW{l:List Int}(h:qx l):nv l<4294967296 ^ l.length:=by
 induction l with
 | nil=>simp
 | cons x l ih =>
  have h':=bp.1 h
  have:=ih h'.2
  simp
  omega
@[simp] theorem zaa(n:Nat):nv (I n 0)=0:=by
 induction n with
 | zero=>rfl
 | succ n ih=>simp[qX,ih]
def Ju(l:List Int):Prop:=∀ x,l.getLast? = some x->x≠0
theorem HA{x:Int}{l:List Int}(h:Ju (x::l)):Ju l:=by
 cases l with
 | nil=>nofun
 | cons y l=>intro z hz; exact h z (wa)
theorem MU{l:List Int}(h:qx l)(ht:Ju l)(hn:l≠[]):nv l≠0:=by
 induction l with
 | nil=>grind
 | cons x l ih =>
  have h':=bp.1 h
  cases l with
  | nil =>
   have:=ht x rfl
   simp; omega
  | cons y l =>
   have:=ih h'.2 (HA ht) (qw)
   rw[WC]; omega
theorem E0{l:List Int}(h:qx l)(ht:Ju l):vU (nv l)=l:=by
 induction l with
 | nil=>exact gY
 | cons x l ih =>
  have h':=bp.1 h
  have h1:=ih h'.2 (HA ht)
  rw[WE (MU h ht (qw)),WC]
  grind
theorem dV{n:Nat}:vU n=[]↔n=0:=by
 constructor
 ·intro h; rw[<- jA n,h]; rfl
 ·rintro rfl; exact gY
theorem GV(l:List Int):nv (l++[0])=nv l:=by simp[rj]
theorem uL{n k:Nat}:(vU n).length<=k↔n<4294967296 ^ k:=by
 induction k generalizing n with
 | zero =>
  simp only[Nat.le_zero_eq,xG,dV]; omega
 | succ k ih =>
  by_cases h:n=0
  ·grind
  ·rw[WE h,List.length_cons,zE,Nat.add_le_add_iff_right,ih]
   grind
theorem MW{n k:Nat}:k<(vU n).length↔4294967296 ^ k<=n:=by
 have:=uL (n:=n) (k:=k); omega
theorem vO{l:List Int}(h:qx l):(vU (nv l)).length<=l.length:=uL.2 (GW h)
theorem DW{a b:List Int}(i:Int)(h:(a.length:Int)<=i):nth (a++b) i 0=nth b (i-a.length) 0:=by
 unfold nth
 grind
theorem Vo(a:List Int)(i:Nat)(h:i<a.length):a.take (i+1)=a.take i++[nth a i 0]:=by
 rw[qS h]; simp[nth,h]
theorem DY{a:List Int}{i:Nat}(h:i<a.length):nv (a.take (i+1))=nv (a.take i)+4294967296 ^ i*(nth a i 0).toNat:=by
 rw[Vo a i h,rj]
 have:(a.take i).length=i:=by simp; omega
 simp[this]
theorem nU(a:List Int)(i:Nat)(h:i<=a.length):nv a=nv (a.take i)+4294967296 ^ i*nv (a.drop i):=by
 have:=rj (a.take i) (a.drop i)
 rw[List.take_append_drop]at this
 grind
theorem Ir{a:List Int}{i:Nat}(h:i<a.length):nv (a.drop i)=(nth a i 0).toNat+4294967296*nv (a.drop (i+1)):=by
 rw[List.drop_eq_getElem_cons h,WC]; simp[nth,h]
theorem Y4{α:Type}(a:List α)(i j:Nat)(x:α)(h:j<=i):(a.set i x).take j=a.take j:=by
 rw[zT h]
theorem Vn(a:List Int)(i:Nat)(x:Int)(h:i<a.length):(a.set i x).take (i+1)=a.take i++[x]:=by
 rw[Vo _ _ (wa),zT (zP _)]
 simp[nth,h]
theorem cU(a:List Int)(i:Nat)(x:Int):(a.set i x).drop (i+1)=a.drop (i+1):=by
 rw[List.drop_set_of_lt (Z)]
end Go.AM.PL
namespace Go.AM.T
variable {σ ρ:Type}
theorem cS{r:σ->T (σ⊕ρ)}(zC:σ->Prop)(μ:σ->Nat)(Q:ρ->Prop)
  (h:∀ s,zC s->(∃ s',(r s).run=some (.inl s')/\zC s'/\μ s'<μ s)\/(∃ x,(r s).run=some (.inr x)/\Q x)) {s:σ} (hs:zC s):∃ x,(loop r s).run=some x/\Q x:=by
 generalize hm:μ s=m
 induction m using zR generalizing s with
 | _ m ih =>
  rcases h s hs with⟨s',h1,X,h3⟩ | ⟨x,h1,X⟩
  ·rw[WA h1]
   grind
  ·exact⟨x,rf h1,X⟩
end Go.AM.T
namespace Go.AM.PL
def lm(a:List Int)(i:Nat):Nat:=(nth a (i:Int) 0).toNat
theorem me{a:List Int}(h:qx a)(i:Nat):lm a i<4294967296:=by have:=fX h i; unfold lm; omega
theorem lr{a:List Int}(h:qx a)(i:Nat):nth a (i:Int) 0=(lm a i:Int):=by have:=fX h i; unfold lm; omega
theorem pL{a:List Int}(h:qx a)(i:Nat):wB a i 0=(lm a i:Int):=by have:=lr h i; unfold nth at this; unfold wB; simpa using this
theorem zjd{a:List Int}{i:Nat}(h:a.length<=i):lm a i=0:=by
 unfold lm nth; simp[qU h]
theorem vj(a:List Int)(i:Nat):nv (a.take (i+1))=nv (a.take i)+4294967296 ^ i*lm a i:=by
 by_cases h:i<a.length
 ·exact DY h
 ·rw[zjd (Z),zK (Z),zK (Z)]; simp
theorem gX{a:List Int}{i:Nat}(h:a.length<=i):nv (a.take i)=nv a:=by rw[zK h]
theorem Ka{a:List Int}{i j:Nat}{x:Int}(h:i<a.length):lm (a.set i x) j=if i=j then x.toNat else lm a j:=by
 unfold lm nth
 grind
theorem DX{a:List Int}{i:Nat}(x:Int)(h:i<a.length):nv (a.set i x)+4294967296 ^ i*lm a i=nv a+4294967296 ^ i*x.toNat:=by
 have h1:=nU (a.set i x) (i+1) (wa)
 have X:=nU a (i+1) (Z)
 rw[cU,Vn a i x h,rj]at h1
 rw[vj]at X
 have h3:(a.take i).length=i:=by simp; omega
 rw[h3]at h1
 simp at h1
 omega
theorem tJ{a:List Int}{i:Nat}(x:Int)(h:i<a.length):nv ((a.set i x).take (i+1))=nv (a.take i)+4294967296 ^ i*x.toNat:=by
 rw[Vn a i x h,rj]
 have h3:(a.take i).length=i:=by simp; omega
 rw[h3]; simp
theorem ID(i:Nat):0<4294967296 ^ i:=wa
theorem cE{a:List Int}(h:qx a)(i:Nat):nv (a.take i)<4294967296 ^ i:=by
 have:=GW (VJ h i)
 have X:(4294967296:Nat) ^ (a.take i).length<=4294967296 ^ i:=zZ (Z) (wa)
 omega
def Fh(a b:Nat):Int:=if a<b then -1 else if b<a then 1 else 0
theorem z1l{r:Int->T (Int⊕(Unit⊕Int))}(x y:List Int)(U:qx x)(hy:qx y)(B:x.length=y.length)
  (h:∀ i:Nat,i<x.length->(r (i:Int)).run=some (if nth x i 0<nth y i 0 then .inr (.inr (-1))else if nth y i 0<nth x i 0 then .inr (.inr 1)else .inl ((i:Int)-1)))
  (h0:(r (-1)).run=some (.inr (.inl ()))):(T.loop r ((x.length:Int)-1)).run=some (if nv x<nv y then .inr (-1)else if nv y<nv x then .inr 1 else .inl ()):=by
 have key:∀ n:Nat,n<=x.length->(T.loop r ((n:Int)-1)).run=some (if nv (x.take n)<nv (y.take n)then .inr (-1)else if nv (y.take n)<nv (x.take n)then .inr 1 else .inl ()):=by
  intro n
  induction n with
  | zero=>intro _; simpa using rf h0
  | succ n ih =>
   intro hn
   have e1:((n+1:Nat):Int)-1=(n:Int):=Z
   rw[e1]
   have hr:=h n (Z)
   rw[lr U,lr hy]at hr
   have a1:=cE U n
   have a2:=cE hy n
   rw[vj,vj]
   rcases Nat.lt_trichotomy (lm x n) (lm y n)with c | c | c
   ·have hm:=zI (4294967296 ^ n) (show lm x n+1<=lm y n by omega)
    rw[qP]at hm
    rw[if_pos (Z)]at hr
    rw[if_pos (Z)]
    exact rf hr
   ·rw[if_neg (Z),if_neg (Z)]at hr
    rw[WA hr,ih (Z),c]
    simp
   ·have hm:=zI (4294967296 ^ n) (show lm y n+1<=lm x n by omega)
    rw[qP]at hm
    rw[if_neg (Z),if_pos (Z)]at hr
    rw[if_neg (Z),if_pos (Z)]
    exact rf hr
 have:=key x.length (zP _)
 rw[List.take_length]at this
 rw[B,List.take_length,<- B]at this
 exact this
theorem K9{A hl:Nat}(h:(vU A).length<(vU hl).length):A<hl:=by
 have h1:=uL.1 (zP (vU A).length)
 have X:=MW.1 h
 omega
theorem Ew(n:Nat)(h:n<18446744073709551616):qQ .u64 (n:Int)=n:=b9 (Z) (Z)
theorem QO(n:Nat)(h:n<4294967296):qQ .u32 (n:Int)=n:=Sr (Z) (Z)
theorem mg{n:Nat}(h:n<18446744073709551616):xo (n:Int)=n:=b9 (Z) (Z)
theorem Ya{n:Nat}(h:n<4294967296):kT (n:Int)=n:=Sr (Z) (Z)
theorem kh{a:List Int}(h:qx a)(i:Nat){n:Nat}(h1:n<4294967296):qx (a.set i (n:Int)):=C3 h i (Z) (Z)
theorem EZ{x y:Nat}(U:x<4294967296)(hy:y<4294967296):YY .u32 (x:Int) (y:Int)=((x &&& y:Nat):Int):=by
 show qQ .u32 (((zH 32 (x:Int) &&& zH 32 (y:Int)).toNat:Nat):Int)=_
 have e:(zH 32 (x:Int) &&& zH 32 (y:Int)).toNat=x &&& y:=by
  grind
 rw[e]
 exact QO _ (zF xH U)
theorem YI{x y:Nat}(U:x<4294967296)(hy:y<4294967296):JJ .u32 (x:Int) (y:Int)=((x ||| y:Nat):Int):=by
 show qQ .u32 (((zH 32 (x:Int) ||| zH 32 (y:Int)).toNat:Nat):Int)=_
 have e:(zH 32 (x:Int) ||| zH 32 (y:Int)).toNat=x ||| y:=by
  grind
 rw[e]
 exact QO _ (xD (n:=32) U hy)
theorem HF{x y:Nat}(U:x<4294967296)(hy:y<4294967296):NH .u32 (x:Int) (y:Int)=((x ^^^ y:Nat):Int):=by
 show qQ .u32 (((zH 32 (x:Int) ^^^ zH 32 (y:Int)).toNat:Nat):Int)=_
 have e:(zH 32 (x:Int) ^^^ zH 32 (y:Int)).toNat=x ^^^ y:=by
  grind
 rw[e]
 exact QO _ (qN (n:=32) U hy)
theorem zav{x y:Nat}(U:x<18446744073709551616)(hy:y<18446744073709551616):JJ .u64 (x:Int) (y:Int)=((x ||| y:Nat):Int):=by
 show qQ .u64 (((zH 64 (x:Int) ||| zH 64 (y:Int)).toNat:Nat):Int)=_
 have e:(zH 64 (x:Int) ||| zH 64 (y:Int)).toNat=x ||| y:=by
  grind
 rw[e]
 exact Ew _ (xD (n:=64) U hy)
theorem N1(x y m:Nat)(hy:y<2 ^ m):x*2 ^ m ||| y=x*2 ^ m+y:=by
 have:=Nat.shiftLeft_add_eq_or_of_lt hy x
 rw[Nat.shiftLeft_eq]at this
 grind
theorem znx{x:Int}(h0:0<=x)(h1:x<4294967296):lZ .u64 x 32=x*4294967296:=by
 have e:lZ .u64 x 32=xo (x*4294967296):=rfl
 rw[e,b9 (Z) (Z)]
theorem zpZ{x y:Int}(h0:0<=x)(h1:x<4294967296)(X:0<=y)(h3:y<4294967296):JJ .u64 (lZ .u64 x 32) (xo y)=x*4294967296+y:=by
 rw[znx h0 h1,b9 X (Z)]
 obtain⟨a,rfl⟩:=qO h0
 obtain⟨b,rfl⟩:=qO X
 have e:=zav (x:=a*4294967296) (y:=b) (Z) (Z)
 rw[N1 a b 32 (wa)]at e
 grind
theorem z2s{x y:Int}(h0:0<=x)(h1:x<4294967296)(X:0<=y)(h3:y<4294967296):JJ .u64 (lZ .u64 x 32) y=x*4294967296+y:=by
 have:=zpZ h0 h1 X h3
 rwa [b9 X (Z)]at this
theorem zcc{x:Int}(h0:0<=x):j8 .u64 x 32=x / 4294967296:=by
 show Int.fdiv x 4294967296=_
 grind
theorem We{x y:Int}(h:0<=x):xK x y=x / y:=wa
theorem Wf{x y:Int}(h:0<=x):xL x y=x % y:=wa
theorem zgu{v:Nat}(h:v<4294967296):v / 2147483648=if v.testBit 31=true then 1 else 0:=wa
theorem LU{v:Nat}(h:v<4294967296):v.testBit 31=decide (2147483648<=v):=wa
theorem znA{x y b:Nat}(U:x<4294967296)(hy:y<4294967296)(J:b<=1) :
  kT (kT ((x:Int)-y)-b)=(((x+4294967296*(if x<y+b then 1 else 0))-y-b:Nat):Int):=by
 rw[ZK,ZK]
 grind
theorem z1c{x y b d:Nat}(U:x<4294967296)(hy:y<4294967296)(J:b<=1)(V:d=(x+4294967296*(if x<y+b then 1 else 0))-y-b) :
  j8 .u32 (JJ .u32 (YY .u32 (NH .u32 (4294967295:Int) x) y) (YY .u32 (NH .u32 (4294967295:Int) (NH .u32 x y)) (d:Int))) 31=if x<y+b then 1 else 0:=by
 have FM:d<4294967296:=by rw[V]; split<;>omega
 have e1:=HF (x:=4294967295) (y:=x) (Z) U
 have h1:4294967295 ^^^ x<4294967296:=qN (n:=32) (Z) U
 have e2:=EZ h1 hy
 have X:(4294967295 ^^^ x) &&& y<4294967296:=zF xH h1
 have e3:=HF U hy
 have h3:x ^^^ y<4294967296:=qN (n:=32) U hy
 have e4:=HF (x:=4294967295) (y:=x ^^^ y) (Z) h3
 have h4:4294967295 ^^^ (x ^^^ y)<4294967296:=qN (n:=32) (Z) h3
 have e5:=EZ h4 FM
 have h5:(4294967295 ^^^ (x ^^^ y)) &&& d<4294967296:=zF xH h4
 have e6:=YI X h5
 have h6:=xD (n:=32) X h5
 have ec:(4294967295:Int)=((4294967295:Nat):Int):=rfl
 rw[ec,e1,e2,e3,e4,e5,e6]
 show Int.fdiv _ 2147483648=_
 rw[Int.fdiv_eq_ediv_of_nonneg _ (Z)]
 have e7:=zgu h6
 have e8:(((((4294967295 ^^^ x) &&& y) ||| ((4294967295 ^^^ (x ^^^ y)) &&& d):Nat):Int)) / 2147483648=(((((4294967295 ^^^ x) &&& y) ||| ((4294967295 ^^^ (x ^^^ y)) &&& d)) / 2147483648:Nat):Int):=Z
 rw[e8,e7]
 have t1:(4294967295:Nat).testBit 31=true:=qh
 simp only[Nat.testBit_or,Nat.testBit_and,Nat.testBit_xor,t1,LU U,LU hy,LU FM]
 by_cases c:x<y+b
 ·rw[if_pos c]at V ⊢
  by_cases p:2147483648<=x<;>by_cases q:2147483648<=y<;>by_cases r:2147483648<=d<;>simp[p,q,r]<;>omega
 ·rw[if_neg c]at V ⊢
  by_cases p:2147483648<=x<;>by_cases q:2147483648<=y<;>by_cases r:2147483648<=d<;>simp[p,q,r]<;>omega
def dgt(n:Nat):UInt8:=UInt8.ofNat (48+n % 10)
def dgz(n:Nat):zn:=if h:n=0 then[]else dgz (n / 10)++[dgt n]
termination_by n
decreasing_by omega
def pr(n:Nat):zn:=if n=0 then[48]else dgz n
theorem z1v:dgz 0=[]:=by rw[dgz]; rfl
theorem z7q{n:Nat}(h:n≠0):dgz n=dgz (n / 10)++[dgt n]:=by rw[dgz,dif_neg h]
def rd(n:Nat):List Int:=if h:n=0 then[]else((48+n % 10:Nat):Int)::rd (n / 10)
termination_by n
decreasing_by omega
theorem WL:rd 0=[]:=by rw[rd]; rfl
theorem Hb{n:Nat}(h:n≠0):rd n=((48+n % 10:Nat):Int)::rd (n / 10):=by rw[rd,dif_neg h]
def Qu:Nat->Nat->List Int
 | 0,_=>[]
 | k+1,n=>((48+n % 10:Nat):Int)::Qu k (n / 10)
theorem IE(k n:Nat):(Qu k n).length=k:=by
 induction k generalizing n with
 | zero=>rfl
 | succ k ih=>simp[Qu,ih]
theorem z4K(k n:Nat):Qu k (n % 10 ^ k)=Qu k n:=by
 induction k generalizing n with
 | zero=>rfl
 | succ k ih =>
  simp only[Qu]
  have e1:n % 10 ^ (k+1) % 10=n % 10:=Nat.mod_mod_of_dvd _ ⟨10 ^ k,by rw[zE,R]⟩
  have e2:n % 10 ^ (k+1) / 10=n / 10 % 10 ^ k:=by rw[zE,R,Nat.mod_mul_right_div_self]
  rw[e1,e2,ih]
theorem z4I(k n:Nat)(h:n / 10 ^ k≠0):rd n=Qu k n++rd (n / 10 ^ k):=by
 induction k generalizing n with
 | zero=>simp[Qu]
 | succ k ih =>
  have hn:n≠0:=by intro z; subst z; simp at h
  have e:n / 10 ^ (k+1)=n / 10 / 10 ^ k:=by rw[zE,R,qT]
  rw[e]at h ⊢
  rw[Hb hn,ih _ h]; rfl
theorem Nb(k n:Nat)(h:n / 10 ^ k=0):∃ z,Qu k n=rd n++I z 48:=by
 induction k generalizing n with
 | zero=>simp at h; subst h; exact⟨0,by rw[WL]; rfl⟩
 | succ k ih =>
  have e:n / 10 ^ (k+1)=n / 10 / 10 ^ k:=by rw[zE,R,qT]
  rw[e]at h
  obtain⟨z,hz⟩:=ih _ h
  simp only[Qu]
  by_cases hn:n=0
  ·subst hn
   refine⟨z+1,?_⟩
   rw[hz]
   simp[WL,qX]
  ·exact⟨z,by rw[hz,Hb hn]; rfl⟩
def blk(n:Nat):List Int:=if h:n=0 then[]else Qu 9 (n % 1000000000)++blk (n / 1000000000)
termination_by n
decreasing_by omega
theorem Xj:blk 0=[]:=by rw[blk]; rfl
theorem Yt{n:Nat}(h:n≠0):blk n=Qu 9 (n % 1000000000)++blk (n / 1000000000):=by rw[blk,dif_neg h]
theorem z1b(n:Nat):∃ z,blk n=rd n++I z 48:=by
 induction n using zR with
 | _ n ih =>
  by_cases hn:n=0
  ·subst hn; exact⟨0,by rw[Xj,WL]; rfl⟩
  ·rw[Yt hn]
   have e:Qu 9 (n % 1000000000)=Qu 9 n:=z4K 9 n
   rw[e]
   by_cases h:n / 1000000000=0
   ·rw[h,Xj,List.append_nil]
    exact Nb 9 n h
   ·obtain⟨z,hz⟩:=ih (n / 1000000000) (Z)
    refine⟨z,?_⟩
    rw[hz,<- qR]
    congr 1
    exact(z4I 9 n h).symm
theorem z1u(n:Nat):dgz n=jd (rd n).reverse:=by
 induction n using zR with
 | _ n ih =>
  by_cases hn:n=0
  ·subst hn; rw[z1v,WL]; rfl
  ·rw[z7q hn,Hb hn,ih _ (Z)]
   simp only[List.reverse_cons,jd,qW,List.map_cons,List.map_nil]
   congr 1
theorem zc8{n:Nat}(h:n≠0):rd n≠[]:=by rw[Hb h]; simp
theorem zaF(n:Nat):∀ x,(rd n).getLast? = some x->x≠48:=by
 induction n using zR with
 | _ n ih =>
  intro x U
  by_cases hn:n=0
  ·subst hn; rw[WL]at U; cases U
  ·rw[Hb hn]at U
   by_cases X:n / 10=0
   ·rw[X,WL]at U
    simp at U; omega
   ·refine ih (n / 10) (Z) x ?_
    rw[<- U]
    cases hc:rd (n / 10)with
    | nil=>exact absurd hc (zc8 X)
    | cons y l=>rw[List.getLast?_cons_cons]
theorem Gg(q a b c:Nat):q*(a*c+b)=(q*a)*c+q*b:=wa
theorem z1w(a b:Nat):(a+1)*b=a*b+b:=wa
theorem zd4(a b c:Nat):(a+b)*c=a*c+b*c:=wa
theorem FH{u2 u1 u0 v1 v2 q r:Nat}(hr:q*v1+r=u2*4294967296+u1)(h:q*v2<=r*4294967296+u0) :
  q*(v1*4294967296+v2)<=u2*18446744073709551616+u1*4294967296+u0:=by
 rw[Gg]
 generalize q*v1=x at *
 generalize q*v2=y at *
 omega
theorem z1M{u2 u1 u0 v1 v2 q r:Nat}(hr:q*v1+r=u2*4294967296+u1)(h:r*4294967296+u0<q*v2) :
  u2*18446744073709551616+u1*4294967296+u0<q*(v1*4294967296+v2):=by
 rw[Gg]
 generalize q*v1=x at *
 generalize q*v2=y at *
 grind
theorem z1N{hx hd q:Nat}(hV:0<hd)(h:hx<q*hd):hx / hd<q:=(zL hV).2 h
theorem Mn{u2 u1 u0 v1 v2:Nat}(hv:0<v1)(hu0:u0<4294967296):(u2*18446744073709551616+u1*4294967296+u0) / (v1*4294967296+v2)<=(u2*4294967296+u1) / v1:=by
 rw[zM hv]
 have h:=qY (u2*18446744073709551616+u1*4294967296+u0) (v1*4294967296+v2)
 generalize (u2*18446744073709551616+u1*4294967296+u0) / (v1*4294967296+v2)=q at *
 have e:=Gg q v1 v2 4294967296
 rw[e]at h; omega
theorem Tl{u2 u1 u0 v1 v2:Nat}(hv:2147483648<=v1)(HP:v2<4294967296)(h:u2*18446744073709551616+u1*4294967296+u0<(v1*4294967296+v2+1)*4294967296) :
  (u2*4294967296+u1)<=v1*4294967296+v2/\(u2*4294967296+u1) / v1<=4294967297:=by
 have h1:u2*4294967296+u1<=v1*4294967296+v2:=Z
 refine⟨h1,?_⟩
 rw[Nat.div_le_iff_le_mul (Z)]
 omega
theorem Ol{hx hd D U3 V2 h2 zB q:Nat}(hU:hx=U3*D+h2)(hX:h2<D)(hV:hd=V2*D+zB)(hY:zB<D)(hVt:2147483648*4294967296<=V2)(hUV:hx<hd*4294967296)(hq:q=min (U3 / V2) 4294967295) :
  hx / hd<=q/\q<=hx / hd+1:=by
 have hD:0<D:=Z
 have hV2:0<V2:=Z
 have hVp:0<hd:=by rw[hV]; have:=Nat.mul_pos hV2 hD; omega
 constructor
 ·rw[hq,Nat.le_min]
  constructor
  ·rw[zM hV2]
   have h:=qY hx hd
   generalize hx / hd=z at *
   rw[hV,hU]at h
   have e:=Gg z V2 zB D
   rw[e]at h
   have X:(z*V2)*D<(U3+1)*D:=by 
    rw[z1w]
    generalize z*V2*D=m at *
    generalize z*zB=m2 at *
    omega
   exact Nat.lt_succ_iff.1 (zW X)
  ·have:hx / hd<4294967296:=(zL hVp).2 (by rw[R]; exact hUV)
   omega
 ·have h3:q<=U3 / V2:=Z
  have h4:q<=4294967295:=Z
  have h5:q*V2<=U3:=(zM hV2).1 h3
  cases q with
  | zero=>exact xE _
  | succ q =>
   have:q<=hx / hd:=by
    rw[zM hVp,hV,hU]
    have e:=Gg q V2 zB D
    have e2:=z1w q V2
    have h6:(q*V2+V2)*D<=U3*D:=Y D (Z)
    have e3:=zd4 (q*V2) V2 D
    have h7:q*zB<=4294967295*D:=xA (Z) (Z)
    have h8:4294967295*D<=V2*D:=Y D (Z)
    rw[e]; omega
   omega
end Go.AM.PL
namespace Go.AM.Lf
open PL
@[simp] theorem bK:zb (.int .u32)=(0:Int):=rfl
theorem Iq(l:List Int)(x:Int):nth (l++[x]) ((l++[x]).length-1:Int) 0=x:=by
 rw[DW _ (qw)]; simp[nth]
theorem ca(a:List Int)(h:qx a)(B:a.length<=4000000000):(ue a).run=some (vU (nv a)):=by
 have key:(XT a).run=some (vU (nv a)):=by
  unfold XT
  refine XL (λa=>qx a/\a.length<=4000000000) (λa=>a.length) (λa=>vU (nv a)) ?_ ⟨h,B⟩
  rintro s ⟨h1,X⟩
  rcases List.eq_nil_or_concat s with rfl | ⟨l,x,rfl⟩
  ·right; simp[tI,Qi,gY]
  ·rw[List.concat_eq_append]at *
   have U:=Iq l x
   have hlen:(l++[x]).length=l.length+1:=qw
   have hw:q9 (((l++[x]).length:Int)-1)=((l++[x]).length:Int)-1:=qs (Z) (Z)
   have hIs:(Qi (l++[x])).run=some (x != 0):=by
    unfold Qi
    rw[xg]
    ·simp only[hw,bK,U,xy]
     congr 1
     have:(((l++[x]).length:Int)==0)=false:=by simp; omega
     rw[this]; rfl
    ·intro _; rw[hw]; exact⟨Z,Z⟩
   unfold tI
   rw[zt hIs]
   by_cases YC:x=0
   ·left
    subst YC
    refine⟨l,?_,⟨(UX.1 h1).1,Z⟩,Z,by rw[GV]⟩
    have hc:je (e:=.int .u32) 0 (((l++[(0:Int)]).length:Int)-1) (l++[0])=l:=by
     unfold je; simp
    rw[hw,hc]
    simp only[bne_self_eq_false,Bool.not_false,Js]
    rw[W6 _ (Z) (Z) (Z),xy]
   ·right
    have J:(x != 0)=true:=by simpa using YC
    rw[J]
    simp only[Bool.not_true,Vm,xy]
    rw[E0 h1]
    intro y hy
    simp at hy; omega
 unfold ue
 rw[zt key,xy]
theorem T5(a:List Int)(B:a.length<=4000000000):(yt a).run=some a:=by
 unfold yt
 rw[xg]
 ·cases a with
  | nil=>simp
  | cons x a=>simp only[List.length_cons]at B; simp(disch:=omega)
 ·rintro rfl r hr
  first
  | simpa[T.leads]using hr
  | (obtain⟨_,_,hr⟩:=hr; simpa[T.leads]using hr)
theorem Z9(a:List Int)(h:qx a)(B:a.length<=4000000000):(lh a).run=some (vU (nv a)):=by
 unfold lh
 rw[zt (ca a h B),zt (T5 _ (zN (vO h) B)),xy]
theorem VS(n:Nat)(h:n<18446744073709551616):(iZ (n:Int)).run=some (vU n):=by
 have e2:kT (j8 .u64 (n:Int) 32)=((n / 4294967296:Nat):Int):=by rw[zcc (Z),ZK]; omega
 have e1:kT (n:Int)=((n % 4294967296:Nat):Int):=by rw[ZK]; omega
 have h1:qx [((n % 4294967296:Nat):Int),((n / 4294967296:Nat):Int)]:=by
  intro x U; simp only[List.mem_cons,List.not_mem_nil,or_false]at U; rcases U with rfl | rfl<;>omega
 have X:=ca _ h1 (qw)
 have h3:nv [((n % 4294967296:Nat):Int),((n / 4294967296:Nat):Int)]=n:=by simp only[WC,z4g]; omega
 unfold iZ
 rw[lH _ (Z),e1,e2,zt X,h3,xy]
theorem KM(a b:List Int)(ha:qx a)(J:qx b)(la:a.length<=1000000000)(lb:b.length<=1000000000):(tG a b).run=some (Fh (nv a) (nv b)):=by
 unfold tG
 rw[zt (ca a ha (Z)),zt (ca b J (Z))]
 have qa:=vO ha
 have qb:=vO J
 generalize nv a=A at *
 generalize nv b=hl at *
 by_cases B:(vU A).length=(vU hl).length
 ·rw[B,bne_self_eq_false,Vm]
  have key:=z1l (r:=su (vU A) (vU hl)) (vU A) (vU hl) (wK A) (wK hl) B (λi hi => ?_) ?_
  ·rw[<- B,qs (Z) (Z)]
   unfold GS
   rw[zt key,jA,jA]
   unfold Fh
   by_cases p:A<hl
   ·simp[p]
   ·by_cases q:hl<A<;>simp[p,q]
  ·have e:q9 ((i:Int)-1)=(i:Int)-1:=qs (Z) (Z)
   unfold su
   have YA:i<(vU hl).length:=Z
   have x1:=lr (wK A) i
   have x2:=lr (wK hl) i
   rcases Nat.lt_trichotomy (lm (vU A) i) (lm (vU hl) i)with c | c | c
   ·have c2:¬ (lm (vU A) i=lm (vU hl) i):=Z
    simp(disch:=omega) [e,x1,x2,c,c2,hi,YA]<;>omega
   ·simp(disch:=omega) [e,x1,x2,c,hi,YA]
   ·have c2:¬ (lm (vU A) i=lm (vU hl) i):=Z
    have c3:¬ (lm (vU A) i<lm (vU hl) i):=Z
    simp(disch:=omega) [e,x1,x2,c,c2,c3,hi,YA]<;>omega
  ·simp[su]
 ·rw[vK (by simp; omega)]
  unfold Fh
  by_cases c:(vU A).length<(vU hl).length
  ·have:=K9 c
   simp[c,this]
  ·have X:=K9 (show(vU hl).length<(vU A).length by omega)
   have h3:¬ A<hl:=Z
   simp[c,X,h3]
theorem z2Q(n:Nat):kT (n:Int)=((n % 4294967296:Nat):Int):=by rfl
theorem FT(n:Nat):j8 .u64 (n:Int) 32=((n / 4294967296:Nat):Int):=by rw[zcc (Z)]; omega
theorem i1(i:Nat)(h:i<=4000000000):q9 ((i:Int)+1)=((i+1:Nat):Int):=by rw[qs (Z) (Z)]; omega
theorem im1(i:Nat)(h:i<=4000000000):q9 (((i+1:Nat):Int)-1)=(i:Int):=by rw[qs (Z) (Z)]; omega
theorem Kf{x y:Nat}(U:x<4294967296)(hy:y<4294967296):x*y<=18446744065119617025:=xA (show x<=4294967295 by omega) (show y<=4294967295 by omega)
theorem mO(xs:List Int)(i:Nat)(x:Int)(j:Nat)(h:i≠j):lm (xs.set i x) j=lm xs j:=by
 by_cases hi:i<xs.length
 ·rw[Ka hi,if_neg h]
 ·rw[List.set_eq_of_length_le (Z)]
theorem YE{a:List Int}{i:Nat}(h:i<a.length):nv (a.drop i)=lm a i+4294967296*nv (a.drop (i+1)):=Ir h
theorem set_drop{a:List Int}{i:Nat}(x:Int)(h:i<a.length):nv ((a.set i x).drop i)=x.toNat+4294967296*nv (a.drop (i+1)):=by
 rw[YE (wa),cU,Ka h,if_pos rfl]
theorem T9{hi lo y:Nat}(h0:hi<y)(h1:lo<4294967296)(X:y<4294967296) :
  (fu (hi:Int) (lo:Int) (y:Int)).run=some ((((hi*4294967296+lo) / y:Nat):Int),(((hi*4294967296+lo) % y:Nat):Int)):=by
 have e1:=z2s (x:=(hi:Int)) (y:=(lo:Int)) (Z) (Z) (Z) (Z)
 have ey:xo (y:Int)=y:=b9 (Z) (Z)
 have eh:xo (hi:Int)=hi:=b9 (Z) (Z)
 have el:xo (lo:Int)=lo:=b9 (Z) (Z)
 have hq:(hi*4294967296+lo) / y<4294967296:=by
  rw[zL (Z)]
  grind
 have hr:(hi*4294967296+lo) % y<y:=zX _ (Z)
 have e2:(hi:Int)*4294967296+(lo:Int)=((hi*4294967296+lo:Nat):Int):=Z
 have e3:xK ((hi*4294967296+lo:Nat):Int) (y:Int)=(((hi*4294967296+lo) / y:Nat):Int):=by rw[We (Z)]; rfl
 have e4:xL ((hi*4294967296+lo:Nat):Int) (y:Int)=(((hi*4294967296+lo) % y:Nat):Int):=by rw[Wf (Z)]; rfl
 unfold fu
 rw[ji (wa)]
 simp only[ey,eh,el,e1,e2,e3,e4]
 rw[lH _ (Z),tQ _ (Z),tQ _ (Z),xy,mg (Z),Ya hq,Ya (Z)]
theorem Nn{A Q r y l q:Nat}(h:A=Q*y+r)(hq:q=(r*4294967296+l) / y):l+4294967296*A=(q+4294967296*Q)*y+(r*4294967296+l) % y:=by
 have:=qD (r*4294967296+l) y
 grind
theorem Vg(a:List Int)(ha:qx a)(la:a.length<=1000000000)(y:Nat)(h0:0<y)(h1:y<4294967296):(ri a (y:Int)).run=some (vU (nv a / y),((nv a % y:Nat):Int)):=by
 have loop:∃ r:Int×List Int,(Ja a (y:Int) (0,(a.length:Int)-1,I a.length 0)).run=some r/\∃ m:Nat,r.1=(m:Int)/\m<y/\qx r.2/\r.2.length=a.length/\nv a=nv r.2*y+m:=by
  refine T.cS (λs:Int×Int×List Int=>∃ (m i:Nat),s.1=(m:Int)/\s.2.1=(i:Int)-1/\m<y/\i<=a.length/\qx s.2.2/\s.2.2.length=a.length/\nv (a.drop i)=nv (s.2.2.drop i)*y+m)
   (λs=>(s.2.1+1).toNat) _ ?_ ⟨0,a.length,rfl,rfl,h0,zP _,vT _,qw,qw⟩
  rintro⟨_,_,xs⟩ ⟨m,i,rfl,rfl,hm,hi,B,hn,hv⟩
  simp only at B hn hv ⊢
  cases i with
  | zero =>
   right
   refine⟨((m:Int),xs),?_,m,rfl,hm,B,hn,by simpa using hv⟩
   unfold pK
   simp
  | succ i =>
   left
   have U:=me ha i
   have e1:((i+1:Nat):Int)-1=(i:Int):=Z
   have V:=T9 hm U h1
   have hq:(m*4294967296+lm a i) / y<4294967296:=by
    rw[zL (Z)]
    grind
   have ei:q9 ((i:Int)-1)=(i:Int)-1:=qs (Z) (Z)
   refine⟨((((m*4294967296+lm a i) % y:Nat):Int),(i:Int)-1,xs.set i (((m*4294967296+lm a i) / y:Nat):Int)),?_,⟨_,i,rfl,rfl,zX _ h0,Z,kh B _ hq,by simpa using hn,?_⟩,qw⟩
   ·unfold pK
    simp only[e1,bK,lr ha,IQ,ei]
    rw[if_pos (qw),vP _ (Z) (Z),zt V]
    simp(disch:=omega) [hn]
   ·simp only
    rw[YE (Z),set_drop _ (Z),zA]
    exact Nn hv rfl
 obtain⟨⟨_,xs⟩,hr,m,rfl,hm,B,hn,hv⟩:=loop
 simp only at B hn hv
 unfold ri
 rw[qs (Z) (Z)]
 simp only[zA,zY]
 rw[T.run_mk _ (Z) (Z) (Z) (Z),bG _ rfl rfl rfl,xg rfl,zt hr]
 simp only[Nat.zero_add,qG,List.take_length]
 have e1:nv a / y=nv xs:=by rw[hv,R,Nat.mul_add_div h0,qJ hm,qI]
 have e2:nv a % y=m:=by rw[hv,R,Nat.mul_add_mod,qV hm]
 rw[xg rfl,zt (ca xs B (Z)),xy,e1,e2]
theorem Nj{v s:Nat}(hv:v<4294967296)(hs:s<=32):lZ .u64 (v:Int) (s:Int)=((v*2 ^ s:Nat):Int):=by
 have h1:2 ^ s<=2 ^ 32:=zZ (Z) hs
 have X:v*2 ^ s<=4294967295*4294967296:=xA (Z) h1
 have e:min (s:Int).toNat 64=s:=by simp; omega
 show xo ((v:Int)*2 ^ (min (s:Int).toNat 64))=_
 rw[e]
 have e2:(v:Int)*2 ^ s=((v*2 ^ s:Nat):Int):=qw
 rw[e2,mg (Z)]
theorem zfk{v s:Nat}(hs:s<=64):j8 .u64 (v:Int) (s:Int)=((v / 2 ^ s:Nat):Int):=by
 show Int.fdiv (v:Int) (2 ^ (min (s:Int).toNat 64))=_
 grind
theorem zf7{h m s:Nat}(hh:h<2 ^ s):h ||| m*2 ^ s=h+m*2 ^ s:=by rw[Nat.or_comm,N1 m h s hh,qH]
theorem Ip(v s:Nat)(hs:s<=32):v*2 ^ s % 4294967296=(v % 2 ^ (32-s))*2 ^ s:=by
 have e:(4294967296:Nat)=2 ^ (32-s)*2 ^ s:=by rw[<- qB]; rw[show 32-s+s=32 by omega]
 rw[e,xJ]
theorem TL{h v s:Nat}(hh:h<2 ^ s)(hv:v<4294967296)(hs:s<32) :
  JJ .u32 (h:Int) (kT ((v*2 ^ s:Nat):Int))=((h+v*2 ^ s % 4294967296:Nat):Int)/\h+v*2 ^ s % 4294967296<4294967296/\v*2 ^ s / 4294967296<2 ^ s:=by
 have e1:=Ip v s (Z)
 have e2:(v % 2 ^ (32-s))*2 ^ s+2 ^ s<=4294967296:=by
  have:v % 2 ^ (32-s)+1<=2 ^ (32-s):=zX _ (zU (Z))
  have:=Y (2 ^ s) this
  rw[<- qB,show 32-s+s=32 by omega]at this
  grind
 refine⟨?_,wa,?_⟩
 ·rw[z2Q,YI (Z) (Z),e1,zf7 hh]
 ·rw[zL (Z),R]
  exact Nat.mul_lt_mul_of_pos_left hv (zU (Z))
theorem I4{h2 h P hd v t A:Nat}(hv:h2+h*P=hd*t)(hA:A=v*t):h2+P*(h+A % 4294967296)+A / 4294967296*(P*4294967296)=(hd+P*v)*t:=by
 have e:A=A % 4294967296+4294967296*(A / 4294967296):=Z
 grind
theorem C2(a:List Int)(ha:qx a)(la:a.length<=1000000000)(s n:Nat)(hs:s<32)(Yk:a.length<=n)(Dz:n<=a.length+1)(B4:nv a*2 ^ s<4294967296 ^ n) :
  ∃ r,(KO (s:Int) (n:Int) a (a.length:Int) (0,I n 0)).run=some r/\qx r/\r.length=n/\nv r=nv a*2 ^ s:=by
 refine T.cS (λz:Int×List Int=>∃ i h:Nat,z.1=(i:Int)/\i<=a.length/\qx z.2/\z.2.length=n/\h<2 ^ s/\(i<n->lm z.2 i=h)/\nv (z.2.take i)+h*4294967296 ^ i=nv (a.take i)*2 ^ s)
  (λz=>a.length-z.1.toNat) _ ?_ ⟨0,0,rfl,Z,vT _,qw,zU (Z),λ_ => ?_,qw⟩
 ·rintro⟨_,xs⟩ ⟨i,h,rfl,hi,B,hn,hh,hli,hv⟩
  simp only at B hn hli hv ⊢
  by_cases wO:i<a.length
  ·left
   have U:=me ha i
   obtain⟨s1,s2,s3⟩:=TL hh U hs
   have J:xo (lm a i:Int)=lm a i:=mg (Z)
   have hlx:=hli (Z)
   have hp:2 ^ s<=2 ^ 31:=zZ (Z) (Z)
   have e2:kT ((lm a i*2 ^ s / 4294967296:Nat):Int)=((lm a i*2 ^ s / 4294967296:Nat):Int):=Ya (Z)
   by_cases K3:i+1<n
   all_goals have zih:((i:Int)+1<(n:Int))↔(i+1<n):=Z
   ·refine⟨(((i+1:Nat):Int),(xs.set i ((h+lm a i*2 ^ s % 4294967296:Nat):Int)).set (i+1) ((lm a i*2 ^ s / 4294967296:Nat):Int)),?_,
     ⟨i+1,lm a i*2 ^ s / 4294967296,rfl,Z,kh (kh B _ s2) _ (Z),by simpa using hn,s3,λ_ => ?_,?_⟩,by simp; omega⟩
    ·unfold nS
     simp only[bK,lr ha,zA,Nat.zero_add,pL B,J,Nj U (show s<=32 by omega),hlx,s1,i1 i (Z),FT,e2]
     simp(disch:=omega) [wO,hn,K3,zih]
    ·simp only
     rw[Ka (by simp; omega),if_pos rfl,zA]
    ·simp only
     rw[Y4 _ _ _ _ (zP _),tJ _ (Z),vj,zA,zE]
     exact I4 hv rfl
   ·refine⟨(((i+1:Nat):Int),xs.set i ((h+lm a i*2 ^ s % 4294967296:Nat):Int)),?_,
     ⟨i+1,lm a i*2 ^ s / 4294967296,rfl,Z,kh B _ s2,by simpa using hn,s3,λ_=>Z,?_⟩,by simp; omega⟩
    ·unfold nS
     simp only[bK,lr ha,zA,Nat.zero_add,pL B,J,Nj U (show s<=32 by omega),hlx,s1,i1 i (Z),FT,e2]
     simp(disch:=omega) [wO,hn,K3,zih]
    ·simp only
     rw[tJ _ (Z),vj,zA,zE]
     exact I4 hv rfl
  ·right
   have:i=a.length:=Z
   subst this
   refine⟨xs,?_,B,hn,?_⟩
   ·unfold nS
    simp
   ·rw[List.take_length]at hv
    by_cases q:n=a.length
    ·rw[gX (Z)]at hv
     rcases qC h with z | z
     ·grind
     ·have:=Y (4294967296 ^ a.length) z
      grind
    ·have ku:n=a.length+1:=Z
     have:=vj xs a.length
     rw[gX (Z),hli (Z),R]at this
     omega
 ·show lm (I n 0) 0=0
  unfold lm nth
  cases n<;>simp[qX]
theorem DQ(a:List Int)(ha:qx a)(la:a.length<=1000000000)(s n:Nat)(hs:s<32)(Yk:a.length<=n)(Dz:n<=a.length+1)(B4:nv a*2 ^ s<4294967296 ^ n) :
  ∃ r,(J8 a (s:Int) (n:Int)).run=some r/\qx r/\r.length=n/\nv r=nv a*2 ^ s:=by
 obtain⟨r,h1,X,h3,h4⟩:=C2 a ha la s n hs Yk Dz B4
 refine⟨r,?_,X,h3,h4⟩
 unfold J8
 simp
 rw[T.run_mk _ (Z) (Z) (Z) (Z),bG _ rfl rfl rfl,xg rfl,zt h1]
 simp
theorem XQ(a:List Int)(ha:qx a)(la:a.length<=1000000000)(s n:Nat)(hs:s<32)(Yk:a.length<=n)(Dz:n<=a.length+1)(B4:nv a*2 ^ s<4294967296 ^ n) :
  ∃ r,(sy a (s:Int) (n:Int)).run=some r/\qx r/\r.length=n/\nv r=nv a*2 ^ s:=by
 obtain⟨r,h1,X,h3,h4⟩:=C2 a ha la s n hs Yk Dz B4
 refine⟨r,?_,X,h3,h4⟩
 have HL:(Ve (s:Int) (n:Int) a (a.length:Int) (0,I n 0)).run=some r:=h1
 unfold sy
 simp
 rw[T.run_mk _ (Z) (Z) (Z) (Z),bG _ rfl rfl rfl,xg rfl,zt HL]
 simp
theorem znn{a b s:Nat}(hs:s<=32)(ha:a<2 ^ (32-s)):a ||| b*2 ^ (32-s)=a+b*2 ^ (32-s):=by rw[Nat.or_comm,N1 b a (32-s) ha,qH]
theorem ic(s:Nat)(h:s<=32):(4294967296:Nat)=2 ^ (32-s)*2 ^ s:=by rw[<- qB,show 32-s+s=32 by omega]
theorem zny{v s:Nat}(hs:s<=32):v*4294967296 / 2 ^ s=v*2 ^ (32-s):=by
 rw[ic s hs,<- qK,Nat.mul_div_cancel _ (zU (Z))]
theorem zfl{v s:Nat}(hs:s<=32):v*2 ^ (32-s) / 4294967296=v / 2 ^ s:=by
 rw[ic s hs,R v,Nat.mul_div_mul_left _ _ (zU (Z))]
theorem zfm{v s:Nat}(hs:s<=32):v*2 ^ (32-s) % 4294967296=(v % 2 ^ s)*2 ^ (32-s):=by
 rw[ic s hs,R (2 ^ (32-s)),xJ]
theorem zaO{hd v P s C:Nat}(hs:s<=32)(hC:C=hd / 2 ^ s):C+P*((v % 2 ^ s)*2 ^ (32-s))+P*4294967296*(v / 2 ^ s)=(hd+P*4294967296*v) / 2 ^ s:=by
 have hp:0<2 ^ s:=zU (Z)
 have e1:hd+P*4294967296*v=hd+(P*2 ^ (32-s)*v)*2 ^ s:=by
  have:P*4294967296*v=P*(2 ^ (32-s)*2 ^ s)*v:=by rw[<- ic s hs]
  grind
 rw[e1,Nat.add_mul_div_right _ _ hp,hC]
 have e2:v=v % 2 ^ s+2 ^ s*(v / 2 ^ s):=by have:=qD v (2 ^ s); omega
 have e3:P*4294967296*(v / 2 ^ s)=P*(2 ^ (32-s)*2 ^ s)*(v / 2 ^ s):=by rw[<- ic s hs]
 grind
theorem z4W(x:List Int)(U:qx x)(lx:x.length<=4000000000)(s:Nat)(hs:s<32) :
  ∃ r,(J5 (s:Int) x (x.length:Int) (0,I x.length 0)).run=some r/\qx r/\r.length=x.length/\nv r=nv x / 2 ^ s:=by
 refine T.cS (λz:Int×List Int=>∃ i:Nat,z.1=(i:Int)/\i<=x.length/\qx z.2/\z.2.length=x.length/\(∀ j,i<=j->lm z.2 j=0)/\(∀ j,i=j+1->lm z.2 j=lm x j / 2 ^ s)/\nv (z.2.take i)=nv (x.take i) / 2 ^ s)
  (λz=>x.length-z.1.toNat) _ ?_ ⟨0,rfl,Z,vT _,qw,λj _ => ?_,λj h=>Z,qw⟩
 ·rintro⟨_,xs⟩ ⟨i,rfl,hi,B,hn,hz,hp,hv⟩
  simp only at B hn hz hp hv ⊢
  by_cases wO:i<x.length
  ·left
   have Lt:=me U i
   have J:xo (lm x i:Int)=lm x i:=mg (Z)
   have h32:(32:Int)=((32:Nat):Int):=rfl
   have w1:j8 .u64 (lZ .u64 (lm x i:Int) 32) (s:Int)=((lm x i*2 ^ (32-s):Nat):Int):=by
    rw[h32,Nj Lt (Z),zfk (Z),<- zny (Z)]
   have hq:lm x i / 2 ^ s<4294967296:=zF (qM _ _) Lt
   have w2:kT (j8 .u64 ((lm x i*2 ^ (32-s):Nat):Int) 32)=((lm x i / 2 ^ s:Nat):Int):=by rw[FT,zfl (Z),Ya hq]
   have w3:JJ .u32 (wB xs i 0) ((lm x i / 2 ^ s:Nat):Int)=((lm x i / 2 ^ s:Nat):Int):=by
    rw[pL B,hz i (zP _),YI (Z) hq,Nat.zero_or]
   cases i with
   | zero =>
    refine⟨(1,xs.set 0 ((lm x 0 / 2 ^ s:Nat):Int)),?_,⟨1,rfl,Z,kh B _ hq,by simpa using hn,λj h => ?_,λj h => ?_,?_⟩,by simp; omega⟩
    ·have w3':=w3
     simp only[Int.natCast_zero]at *
     have YC:nth x 0 0=(lm x 0:Int):=lr U 0
     unfold lg
     simp only[bK,YC,zA,Nat.zero_add,J,w1,w2,w3]
     have zsc:JJ .u32 (wB xs (Int.toNat 0) 0) ((lm x 0 / 2 ^ s:Nat):Int)=((lm x 0 / 2 ^ s:Nat):Int):=w3
     generalize lm x 0 / 2 ^ s=q at *
     simp only[zsc]
     simp(disch:=omega) [wO,hn]
    ·rw[mO _ _ _ _ (Z)]; exact hz j (Z)
    ·have:j=0:=Z
     subst this
     rw[Ka (Z),if_pos rfl,zA]
    ·simp only
     rw[tJ _ (Z),vj]; simp only[zA,List.take_zero,z4g,Nat.pow_zero,Nat.one_mul,Nat.zero_add]
   | succ i =>
    have EH:=hp i rfl
    have zqs:=me U i
    have hq2:lm xs i<2 ^ (32-s):=by
     rw[EH,zL (zU (Z)),<- ic s (Z)]; exact zqs
    have hq3:lm x (i+1)*2 ^ (32-s) % 4294967296=(lm x (i+1) % 2 ^ s)*2 ^ (32-s):=zfm (Z)
    have hq4:lm xs i+(lm x (i+1) % 2 ^ s)*2 ^ (32-s)<4294967296:=by
     have h1:lm x (i+1) % 2 ^ s+1<=2 ^ s:=zX _ (zU (Z))
     have X:=Y (2 ^ (32-s)) h1
     rw[R (2 ^ s),<- ic s (Z),Nat.add_mul]at X
     omega
    have hxi:=me B i
    have w4:∀ ys:List Int,qx ys->lm ys i=lm xs i->JJ .u32 (wB ys i 0) (kT ((lm x (i+1)*2 ^ (32-s):Nat):Int))=((lm xs i+(lm x (i+1) % 2 ^ s)*2 ^ (32-s):Nat):Int):=by
     intro ys hys he
     rw[pL hys,he,z2Q,YI hxi (zX _ (Z)),hq3,znn (Z) hq2]
    have w5:=w4 _ (kh B (i+1) hq) (mO _ _ _ _ (Z))
    refine⟨(((i+1+1:Nat):Int),(xs.set (i+1) ((lm x (i+1) / 2 ^ s:Nat):Int)).set i ((lm xs i+(lm x (i+1) % 2 ^ s)*2 ^ (32-s):Nat):Int)),?_,
     ⟨i+1+1,rfl,Z,kh (kh B _ hq) _ hq4,by simpa using hn,λj h => ?_,λj h => ?_,?_⟩,by simp; omega⟩
    ·unfold lg
     simp only[bK,lr U,zA,Nat.zero_add,J,w1,w2,w3,i1 (i+1) (Z),im1 i (Z),w5]
     rw[vK (by simp; omega)]
     have V6:decide ((0:Int)<((i+1:Nat):Int))=true:=qw
     generalize hG:(xs.set (i+1) ((lm x (i+1) / 2 ^ s:Nat):Int)).set i ((lm xs i+(lm x (i+1) % 2 ^ s)*2 ^ (32-s):Nat):Int)=G
     have hGl:G.length=xs.length:=by rw[<- hG]; simp
     rw[vP _ (Z) (Z),lH _ (Z),lH _ (Z),vP _ (Z) (Z),ik _ rfl (Z),lH _ (Z),vP _ (Z) (Z),ik _ rfl (Z),vK V6,
      vP _ (Z) (Z),ik _ (qw) (by simp; omega),vP _ (Z) (Z),ik _ (qw) (by simp; omega),bG _ (Z) rfl (Z),gx _ (Z),xy]
    ·rw[mO _ _ _ _ (Z),mO _ _ _ _ (Z)]; exact hz j (Z)
    ·have:j=i+1:=Z
     subst this
     rw[mO _ _ _ _ (Z),Ka (Z),if_pos rfl,zA]
    ·simp only
     rw[vj,mO _ _ _ _ (Z),Ka (Z),if_pos rfl,zA,tJ _ (by simp; omega),Y4 _ _ _ _ (Z),zA,vj,zE]
     have HP:=hv
     rw[vj]at HP
     have e:nv (xs.take i)+4294967296 ^ i*(lm xs i+lm x (i+1) % 2 ^ s*2 ^ (32-s))=(nv (xs.take i)+4294967296 ^ i*lm xs i)+4294967296 ^ i*(lm x (i+1) % 2 ^ s*2 ^ (32-s)):=by rw[qP]; omega
     rw[e]
     exact zaO (Z) HP
  ·right
   have:i=x.length:=Z
   subst this
   refine⟨xs,?_,B,hn,?_⟩
   ·unfold lg
    simp
   ·grind
 ·show lm (I x.length 0) j=0
  unfold lm nth
  grind
theorem z8r{A k:Nat}(h:(vU A).length<=k):A<4294967296 ^ k:=uL.1 h
theorem z4G(k:Nat):(4294967296:Nat) ^ (k / 32)*2 ^ (k % 32)=2 ^ k:=by
 have:(4294967296:Nat)=2 ^ 32:=qh
 rw[this,<- Nat.pow_mul,<- qB]; congr 1; omega
theorem HU(a:List Int)(ha:qx a)(la:a.length<=1000000000)(k:Nat)(hk:k<=4096)(h0:0<k):(mN a (-(k:Int))).run=some (vU (nv a / 2 ^ k)):=by
 have qa:=vO ha
 unfold mN
 rw[zt (ca a ha (Z))]
 generalize nv a=A at *
 have e1:V9 (iA (-(k:Int)) (-4096)) 4096 = -(k:Int):=by unfold V9 iA; repeat' split<;>omega
 have e2:q9 (0 - -(k:Int))=(k:Int):=by rw[qs (Z) (Z)]; omega
 have e3:q9 (xK (k:Int) 32)=((k / 32:Nat):Int):=by rw[We (Z),qs (Z) (Z)]; omega
 have e4:xo (xL (k:Int) 32)=((k % 32:Nat):Int):=by rw[Wf (Z),b9 (Z) (Z)]; omega
 simp only[e1,e2,e3,e4]
 rw[vK (wa),tQ _ (Z)]
 have U:=wK A
 by_cases c:(vU A).length<=k / 32
 ·rw[vK (by simp; omega),xy]
  have h1:=z8r c
  have X:=z4G k
  have h3:4294967296 ^ (k / 32)<=2 ^ k:=by rw[<- X]; exact Nat.le_mul_of_pos_right _ (zU (Z))
  rw[qJ (Z),gY]
 ·rw[ji (by simp; omega),tQ _ (Z)]
  have e5:q9 (((vU A).length:Int)-((k / 32:Nat):Int))=(((vU A).length-k / 32:Nat):Int):=by rw[qs (Z) (Z)]; omega
  have e6:je (e:=.int .u32) ((k / 32:Nat):Int) ((vU A).length:Int) (vU A)=(vU A).drop (k / 32):=by unfold je; simp only[zA,List.take_length]
  obtain⟨r,g1,g2,g3,g4⟩:=z4W ((vU A).drop (k / 32)) (sq U _) (by simp; omega) (k % 32) (zX _ (Z))
  have hlen:((vU A).drop (k / 32)).length=(vU A).length-k / 32:=List.length_drop
  rw[hlen]at g1
  simp only[e5,e6,zA,zY,hlen]
  rw[T.run_mk _ (Z) (Z) (Z) (Z),W6 _ (Z) (Z) (Z),bG _ rfl rfl rfl,xg rfl,zt g1]
  simp only[Nat.zero_add,qG,List.take_length]
  rw[xg rfl,zt (ca r g2 (Z)),xy,g4]
  have h1:=nU (vU A) (k / 32) (Z)
  rw[jA]at h1
  have X:=cE U (k / 32)
  have h3:A / 4294967296 ^ (k / 32)=nv ((vU A).drop (k / 32)):=by
   refine(congrArg (· / 4294967296 ^ (k / 32)) h1).trans ?_
   rw[Nat.add_mul_div_left _ _ (ID _),qJ X,Nat.zero_add]
  rw[<- h3,qT,z4G]
theorem DZ(k:Nat)(l:List Int):nv (I k 0++l)=4294967296 ^ k*nv l:=by rw[rj]; simp
theorem HV(a:List Int)(ha:qx a)(la:a.length<=1000000000)(k:Nat)(hk:k<=4096):(mN a (k:Int)).run=some (vU (nv a*2 ^ k)):=by
 have qa:=vO ha
 unfold mN
 rw[zt (ca a ha (Z))]
 generalize nv a=A at *
 have e1:V9 (iA (k:Int) (-4096)) 4096=(k:Int):=by unfold V9 iA; repeat' split<;>omega
 have e3:q9 (xK (k:Int) 32)=((k / 32:Nat):Int):=by rw[We (Z),qs (Z) (Z)]; omega
 have e4:xo (xL (k:Int) 32)=((k % 32:Nat):Int):=by rw[Wf (Z),b9 (Z) (Z)]; omega
 have U:=wK A
 have e5:q9 ((vU A).length+1:Int)=(((vU A).length+1:Nat):Int):=i1 _ (Z)
 have e6:q9 (q9 (((k / 32:Nat):Int)+(vU A).length)+1)=((k / 32+(vU A).length+1:Nat):Int):=by rw[qs (x:=((k / 32:Nat):Int)+(vU A).length) (Z) (Z),qs (Z) (Z)]; omega
 have B4:nv (vU A)*2 ^ (k % 32)<4294967296 ^ ((vU A).length+1):=by
  have h1:=GW U
  have X:2 ^ (k % 32)<=2 ^ 32:=zZ (Z) (Z)
  exact xB h1 X (Z)
 obtain⟨r,g1,g2,g3,g4⟩:=DQ (vU A) U (Z) (k % 32) ((vU A).length+1) (zX _ (Z)) (Z) (Z) B4
 simp only[e1,e3,e4,e5,e6]
 rw[ji (qw),tQ _ (Z),T.run_mk _ (Z) (Z) (Z) (Z),W6 _ (Z) (by simp; omega) (qw),tQ _ (Z),zt g1]
 simp only[zA,Nat.zero_add,zY,qG]
 rw[zaL _ rfl (Z),Hn]
 have ec:((yE (k / 32) (k / 32+(vU A).length+1-k / 32) (I (k / 32+(vU A).length+1) (0:Int)) r))=I (k / 32) 0++r:=by
  unfold yE
  rw[List.take_replicate,List.drop_replicate,zK (Z)]
  rw[show k / 32+(vU A).length+1-(k / 32+min (k / 32+(vU A).length+1-k / 32) r.length)=0 by omega]
  grind
 rw[ec,zK (by simp; omega)]
 rw[zt (ca _ (UX.2 ⟨vT _,g2⟩) (by simp; omega)),xy,DZ,g4,jA]
 rw[<- z4G k]; grind
theorem Tk{u2 u1 u0 v1 v2:Nat}(X:u2<4294967296)(h1:u1<4294967296)(h0:u0<4294967296)(hv1:v1<4294967296)(HP:v2<4294967296)(hn:2147483648<=v1)
  (ht:u2*18446744073709551616+u1*4294967296+u0<(v1*4294967296+v2+1)*4294967296) :
  (rh (u2:Int) (u1:Int) (u0:Int) (v1:Int) (v2:Int)).run=some ((min ((u2*18446744073709551616+u1*4294967296+u0) / (v1*4294967296+v2)) 4294967295:Nat):Int):=by
 obtain⟨t1,t2⟩:=Tl hn HP ht
 have ti:=Mn (u2:=u2) (u1:=u1) (u0:=u0) (v1:=v1) (v2:=v2) (Z) h0
 obtain⟨Q,hQ⟩:∃ Q,(u2*18446744073709551616+u1*4294967296+u0) / (v1*4294967296+v2)=Q:=⟨_,rfl⟩
 rw[hQ]at ti ⊢
 have hV:0<v1*4294967296+v2:=Z
 have e1:=z2s (x:=(u2:Int)) (y:=(u1:Int)) (Z) (Z) (Z) (Z)
 have e2:(u2:Int)*4294967296+(u1:Int)=((u2*4294967296+u1:Nat):Int):=Z
 have w1:xo (u1:Int)=u1:=mg (Z)
 have w2:xo (u2:Int)=u2:=mg (Z)
 have w0:xo (u0:Int)=u0:=mg (Z)
 have x1:xo (v1:Int)=v1:=mg (Z)
 have x2:xo (v2:Int)=v2:=mg (Z)
 have e3:xK ((u2*4294967296+u1:Nat):Int) (v1:Int)=(((u2*4294967296+u1) / v1:Nat):Int):=by rw[We (Z)]; rfl
 have e4:xL ((u2*4294967296+u1:Nat):Int) (v1:Int)=(((u2*4294967296+u1) % v1:Nat):Int):=by rw[Wf (Z)]; rfl
 have hm:(u2*4294967296+u1) % v1<v1:=zX _ (Z)
 have hdm:=qD (u2*4294967296+u1) v1
 rw[R]at hdm
 have loop:∃ r:Int,(J7 (u0:Int) (v1:Int) (v2:Int) ((((u2*4294967296+u1) / v1:Nat):Int),(((u2*4294967296+u1) % v1:Nat):Int))).run=some r/\r=((min Q 4294967295:Nat):Int):=by
  refine T.cS (λs:Int×Int=>∃ q r:Nat,s.1=(q:Int)/\s.2=(r:Int)/\q<=4294967297/\r<4294967296/\q*v1+r=u2*4294967296+u1/\min Q 4294967295<=q)
   (λs=>s.1.toNat) _ ?_ ⟨_,_,rfl,rfl,t2,Z,hdm,Z⟩
  rintro⟨_,_⟩ ⟨q,r,rfl,rfl,hq,hr,hqr,zdJ⟩
  have e5:=z2s (x:=(r:Int)) (y:=(u0:Int)) (Z) (Z) (Z) (Z)
  have es:j8 .u64 (q:Int) 32=((q / 4294967296:Nat):Int):=FT q
  by_cases hbig:4294967296<=q\/r*4294967296+u0<q*v2
  ·-- too many
   have hgt:min Q 4294967295<q:=by
    rcases hbig with h | h
    ·omega
    ·have:=z1N hV (z1M (u2:=u2) (u1:=u1) (u0:=u0) (v1:=v1) (v2:=v2) hqr h)
     omega
   have ec:((j8 .u64 (q:Int) 32 != 0)||decide (JJ .u64 (lZ .u64 (r:Int) 32) (u0:Int)<xo ((q:Int)*(v2:Int))))=true:=by
    rw[es,e5]
    by_cases h:4294967296<=q
    ·grind
    ·have hh:r*4294967296+u0<q*v2:=hbig.resolve_left h
     have hm2:=Kf (x:=q) (y:=v2) (Nat.lt_of_not_le h) HP
     have e6:(q:Int)*(v2:Int)=((q*v2:Nat):Int):=qw
     rw[e6,mg (zF hm2 (qh))]
     grind
   have eq1:xo ((q:Int)-1)=((q-1:Nat):Int):=by rw[b9 (Z) (Z)]; omega
   have er1:xo ((r:Int)+(v1:Int))=((r+v1:Nat):Int):=by rw[b9 (Z) (Z)]; omega
   have hq1:(q-1)*v1+(r+v1)=u2*4294967296+u1:=by
    obtain⟨p,rfl⟩:∃ p,q=p+1:=⟨q-1,Z⟩
    grind
   by_cases hover:4294967296<=r+v1
   ·right
    refine⟨((q-1:Nat):Int),?_,?_⟩
    ·unfold lj
     simp only[w0,x1,x2,eq1,er1]
     rw[xg ⟨Z,λ_=>Z⟩,vK ec,lH _ (Z),vK (by rw[FT]; simp; omega),xy]
    ·-- what is left cannot be more
     have hq2:q-1<=Q:=by
      rw[<- hQ,zM hV]
      refine FH (u0:=u0) hq1 ?_
      have h3:q-1<=4294967295:=by
       grind
      have h4:(q-1)*v2<=4294967295*4294967295:=xA h3 (Z)
      grind
     have h5:q-1<=4294967295:=by
      grind
     omega
   ·left
    refine⟨(((q-1:Nat):Int),((r+v1:Nat):Int)),?_,⟨q-1,r+v1,rfl,rfl,Z,Z,hq1,Z⟩,by simp; omega⟩
    unfold lj
    simp only[w0,x1,x2,eq1,er1]
    rw[xg ⟨Z,λ_=>Z⟩,vK ec,lH _ (Z),ji (by rw[FT]; simp; omega),xy]
  ·right
   have hm2:=Kf (x:=q) (y:=v2) (Z) HP
   have e6:(q:Int)*(v2:Int)=((q*v2:Nat):Int):=qw
   have ec:((j8 .u64 (q:Int) 32 != 0)||decide (JJ .u64 (lZ .u64 (r:Int) 32) (u0:Int)<xo ((q:Int)*(v2:Int))))=false:=by
    have hz:q / 4294967296=0:=Z
    rw[es,e5,e6,mg (zF hm2 (qh)),hz]
    have hh:¬ (r*4294967296+u0<q*v2):=Z
    generalize q*v2=z at *
    rw[show decide ((r:Int)*4294967296+(u0:Int)<(z:Int))=false from decide_eq_false (Z)]; rfl
   refine⟨(q:Int),?_,?_⟩
   ·unfold lj
    simp only[w0,x1,x2]
    rw[xg ⟨Z,λ_=>Z⟩,ji ec,xy]
   ·have hq2:q<=Q:=by
     rw[<- hQ,zM hV]
     exact FH hqr (Z)
    omega
 obtain⟨r,hr,rfl⟩:=loop
 unfold rh
 have e7:xo (((u2*4294967296+u1) / v1:Nat):Int)=(((u2*4294967296+u1) / v1:Nat):Int):=mg (Z)
 simp only[w1,w2,x1,e1,e2,e3,e4,e7]
 rw[lH _ (Z),tQ _ (Z),tQ _ (Z),zt hr,xy]
theorem CG{x y b:Nat}(U:x<4294967296)(hy:y<4294967296)(J:b<=1) :
  (yc (x:Int) (y:Int) (b:Int)).run=some ((((x+4294967296*(if x<y+b then 1 else 0))-(y+b):Nat):Int),((if x<y+b then 1 else 0:Nat):Int)):=by
 have e1:=znA U hy J
 have e2:=z1c U hy J rfl
 unfold yc
 rw[lH _ (Z),e1,e2,xy]
 grind
theorem SV{x y b:Nat}(U:x<4294967296)(hy:y<4294967296)(J:b<=1) :
  (ft (x:Int) (y:Int) (b:Int)).run=some ((((x+y+b) % 4294967296:Nat):Int),(((x+y+b) / 4294967296:Nat):Int)):=by
 have e:xo (xo ((x:Int)+(y:Int))+(b:Int))=((x+y+b:Nat):Int):=by rw[b9 (x:=(x:Int)+y) (Z) (Z),b9 (Z) (Z)]; omega
 unfold ft
 rw[lH _ (Z),mg (Z),mg (Z),mg (Z),e,FT,z2Q,Ya (Z),xy]
theorem fT(xs:List Int)(o i:Nat)(x:Int):(xs.set (o+i) x).drop o=(xs.drop o).set i x:=by
 rw[List.drop_set,if_neg (Z)]; congr 1; omega
theorem sr(xs:List Int)(o i:Nat):lm (xs.drop o) i=lm xs (o+i):=by
 unfold lm nth
 grind
theorem z5d{h2 X' P N c bo q v w lo hi d zB k:Nat}(h:h2+q*N=zB+(bo+c)*P)(hs:X'+P*w=h2+P*d)(hc:c+q*v=lo+4294967296*hi)(V:d+(lo+bo)=w+4294967296*k) :
  X'+q*(N+P*v)=zB+(k+hi)*(P*4294967296):=wa
theorem znq{c q v:Nat}(hc:c<4294967296)(hq:q<4294967296)(hv:v<4294967296):xo ((c:Int)+xo ((q:Int)*(v:Int)))=((c+q*v:Nat):Int)/\(c+q*v) / 4294967296<4294967296:=by
 have h:=Kf hq hv
 have e:(q:Int)*(v:Int)=((q*v:Nat):Int):=qw
 rw[e]
 generalize q*v=z at *
 rw[b9 (x:=(z:Int)) (Z) (Z),b9 (Z) (Z)]
 omega
theorem zft(b:List Int)(J:qx b)(lb:b.length<=1000000000)(q:Nat)(hq:q<4294967296)(u:List Int)(hu:qx u)(o:Nat)(ho:o+b.length<u.length) :
  ∃ r:(Nat×Nat)×Int×Int×List Int,(XR b (q:Int) b (b.length:Int) ((o,b.length+1),0,0,0,u)).run=some r/\r.1=(o,b.length+1)/\∃ c bo:Nat,r.2.1=(c:Int)/\r.2.2.1=(bo:Int)/\c<4294967296/\bo<=1/\qx r.2.2.2 /\
   r.2.2.2.length=u.length/\r.2.2.2.take o=u.take o/\(r.2.2.2.drop o).drop b.length=(u.drop o).drop b.length/\nv (r.2.2.2.drop o)+q*nv b=nv (u.drop o)+(bo+c)*4294967296 ^ b.length:=by
 refine T.cS (λs:(Nat×Nat)×Int×Int×Int×List Int=>s.1=(o,b.length+1)/\∃ c bo i:Nat,s.2.1=(c:Int)/\s.2.2.1=(bo:Int)/\s.2.2.2.1=(i:Int)/\c<4294967296/\bo<=1/\i<=b.length/\qx s.2.2.2.2 /\
   s.2.2.2.2.length=u.length/\s.2.2.2.2.take o=u.take o/\(s.2.2.2.2.drop o).drop i=(u.drop o).drop i/\nv (s.2.2.2.2.drop o)+q*nv (b.take i)=nv (u.drop o)+(bo+c)*4294967296 ^ i)
  (λs=>b.length-s.2.2.2.1.toNat) _ ?_ ⟨rfl,0,0,0,rfl,rfl,rfl,Z,Z,Z,hu,rfl,rfl,rfl,qw⟩
 rintro⟨_,_,_,_,xs⟩ ⟨rfl,c,bo,i,rfl,rfl,rfl,hc,hbo,hi,B,hn,ht,V,hv⟩
 simp only at B hn ht V hv ⊢
 by_cases wO:i<b.length
 ·left
  have hw:=me J i
  have U:=me B (o+i)
  obtain⟨m1,m2⟩:=znq hc hq hw
  have hs:=CG U (show(c+q*lm b i) % 4294967296<4294967296 by omega) hbo
  have FM:lm xs (o+i)+4294967296*(if lm xs (o+i)<(c+q*lm b i) % 4294967296+bo then 1 else 0)-((c+q*lm b i) % 4294967296+bo)<4294967296:=by split<;>omega
  have hbw:(if lm xs (o+i)<(c+q*lm b i) % 4294967296+bo then 1 else 0)<=1:=by split<;>omega
  have hde:lm xs (o+i)+4294967296*(if lm xs (o+i)<(c+q*lm b i) % 4294967296+bo then 1 else 0)-((c+q*lm b i) % 4294967296+bo)+((c+q*lm b i) % 4294967296+bo)=lm xs (o+i)+4294967296*(if lm xs (o+i)<(c+q*lm b i) % 4294967296+bo then 1 else 0):=by split<;>omega
  generalize hD:lm xs (o+i)+4294967296*(if lm xs (o+i)<(c+q*lm b i) % 4294967296+bo then 1 else 0)-((c+q*lm b i) % 4294967296+bo)=D at *
  generalize hB:(if lm xs (o+i)<(c+q*lm b i) % 4294967296+bo then 1 else 0)=B2 at *
  refine⟨((o,b.length+1),((((c+q*lm b i) / 4294967296:Nat)):Int),(B2:Int),((i+1:Nat):Int),xs.set (o+i) (D:Int)),?_,
   ⟨rfl,(c+q*lm b i) / 4294967296,B2,i+1,rfl,rfl,rfl,m2,hbw,Z,kh B _ FM,by simpa using hn,?_,?_,?_⟩,by simp; omega⟩
  ·unfold ll
   have ew:xo (lm b i:Int)=lm b i:=mg (Z)
   simp only[bK,lr J,zA,pL B,ew,m1,z2Q,FT,i1 i (Z)]
   rw[vK (by simp; omega),vP _ (Z) (Z),vP _ (Z) (Z),ik _ rfl (Z),zt hs]
   simp only
   rw[vP _ (Z) (Z),ik _ rfl (Z),lH _ (Z),xg rfl,gx _ (qw),xy]
  ·simp only
   rw[zT (Z),ht]
  ·simp only
   rw[fT,cU]
   have:=congrArg (xO 1) V
   rw[qF,qF,]at this
   simpa[xF,qH]using this
  ·simp only
   rw[fT,vj,zE]
   have oH:=DX (a:=xs.drop o) (i:=i) (D:Int) (by simp; omega)
   rw[zA,sr]at oH
   exact z5d (lo:=(c+q*lm b i) % 4294967296) hv oH (by generalize c+q*lm b i=z; omega) hde
 ·right
  have:i=b.length:=Z
  subst this
  refine⟨((o,b.length+1),(c:Int),(bo:Int),xs),?_,rfl,c,bo,rfl,rfl,hc,hbo,B,hn,ht,V,by simpa[List.take_length]using hv⟩
  unfold ll
  simp
theorem z15{h2 X' P N m v w d hi zB:Nat}(h:h2+m*P=zB+N)(hs:X'+P*w=h2+P*d)(V:d+4294967296*hi=w+v+m):X'+hi*(P*4294967296)=zB+(N+P*v):=wa
theorem zfu(b:List Int)(J:qx b)(lb:b.length<=1000000000)(u:List Int)(hu:qx u)(o:Nat)(ho:o+b.length<u.length) :
  ∃ r:(Nat×Nat)×Int×List Int,(XS b b (b.length:Int) ((o,b.length+1),0,0,u)).run=some r/\r.1=(o,b.length+1)/\∃ m:Nat,r.2.1=(m:Int)/\m<=1/\qx r.2.2 /\
   r.2.2.length=u.length/\r.2.2.take o=u.take o/\(r.2.2.drop o).drop b.length=(u.drop o).drop b.length/\nv (r.2.2.drop o)+m*4294967296 ^ b.length=nv (u.drop o)+nv b:=by
 refine T.cS (λs:(Nat×Nat)×Int×Int×List Int=>s.1=(o,b.length+1)/\∃ m i:Nat,s.2.1=(m:Int)/\s.2.2.1=(i:Int)/\m<=1/\i<=b.length/\qx s.2.2.2 /\
   s.2.2.2.length=u.length/\s.2.2.2.take o=u.take o/\(s.2.2.2.drop o).drop i=(u.drop o).drop i/\nv (s.2.2.2.drop o)+m*4294967296 ^ i=nv (u.drop o)+nv (b.take i))
  (λs=>b.length-s.2.2.1.toNat) _ ?_ ⟨rfl,0,0,rfl,rfl,Z,Z,hu,rfl,rfl,rfl,qw⟩
 rintro⟨_,_,_,xs⟩ ⟨rfl,m,i,rfl,rfl,hm,hi,B,hn,ht,V,hv⟩
 simp only at B hn ht V hv ⊢
 by_cases wO:i<b.length
 ·left
  have hw:=me J i
  have U:=me B (o+i)
  have hs:=SV U hw hm
  refine⟨((o,b.length+1),(((lm xs (o+i)+lm b i+m) / 4294967296:Nat):Int),((i+1:Nat):Int),xs.set (o+i) (((lm xs (o+i)+lm b i+m) % 4294967296:Nat):Int)),?_,
   ⟨rfl,_,i+1,rfl,rfl,Z,Z,kh B _ (Z),by simpa using hn,?_,?_,?_⟩,by simp; omega⟩
  ·unfold lq
   simp only[bK,lr J,zA,pL B,i1 i (Z)]
   rw[vK (by simp; omega),vP _ (Z) (Z),vP _ (Z) (Z),ik _ rfl (Z),zt hs]
   simp only
   rw[vP _ (Z) (Z),ik _ rfl (Z),xg rfl,gx _ (qw),xy]
  ·simp only
   rw[zT (Z),ht]
  ·simp only
   rw[fT,cU]
   have:=congrArg (xO 1) V
   simpa[xF,qH]using this
  ·simp only
   rw[fT,vj,zE]
   have oH:=DX (a:=xs.drop o) (i:=i) (((lm xs (o+i)+lm b i+m) % 4294967296:Nat):Int) (by simp; omega)
   rw[zA,sr]at oH
   exact z15 hv oH (Z)
 ·right
  have:i=b.length:=Z
  subst this
  refine⟨((o,b.length+1),(m:Int),xs),?_,rfl,m,rfl,hm,B,hn,ht,V,by simpa[List.take_length]using hv⟩
  unfold lq
  simp
theorem XU{D:List Int}(B:qx D)(k:Nat)(hk:k<=D.length)(h:nv D<4294967296 ^ k):nv (D.drop k)=0:=by
 have h1:=nU D k hk
 rcases qC (nv (D.drop k))with z | z
 ·exact z
 ·have:=zI (4294967296 ^ k) z
  omega
theorem Jc{D:List Int}(B:qx D)(k:Nat)(hk:k<=D.length)(h:nv (D.drop k)=0):nv D<4294967296 ^ k:=by
 have h1:=nU D k hk
 have X:=cE B k
 grind
theorem z2O{h2 X' P q N c bo w d zB k:Nat}(h:h2+q*N=zB+(bo+c)*P)(hs:X'+P*w=h2+P*d)(V:d+(c+bo)=w+4294967296*k):X'+q*N=zB+k*(P*4294967296):=wa
theorem z16{z6 zB h2 hx P L m p N:Nat}(h1:z6+P*L=zB+P*((L+m) % 4294967296))(X:zB+m*P=h2+N)(h3:h2+(p+1)*N=hx+1*(P*4294967296))(h4:z6<P*4294967296)(h5:(p+1)*N<=hx+N)
  (hm:m<=1) (hL:L<4294967296):z6+(p+1-1)*N=hx:=by
 by_cases hov:L+m<4294967296
 ·rw[qV hov,qP]at h1
  grind
 ·have zvu:(L+m) % 4294967296=0:=Z
  grind
theorem z0u(b:List Int)(J:qx b)(lb:b.length<=1000000000)(q:Nat)(hq:q<4294967296)(u:List Int)(hu:qx u)(lu:u.length<=4000000000)(o:Nat)(ho:o+b.length<u.length)
  (B4:nv (u.drop o)<4294967296 ^ (b.length+1)) (ziu:q*nv b<=nv (u.drop o)+nv b) :
  ∃ xs:List Int,(tH (o,b.length+1) b (q:Int) u).run=some (decide (nv (u.drop o)<q*nv b),xs)/\qx xs/\xs.length=u.length/\xs.take o=u.take o /\
   nv (xs.drop o)+(if nv (u.drop o)<q*nv b then q-1 else q)*nv b=nv (u.drop o):=by
 obtain⟨⟨_,_,_,xs⟩,hr,rfl,c,bo,rfl,rfl,hc,hbo,B,hn,ht,V,hv⟩:=zft b J lb q hq u hu o ho
 simp only at B hn ht V hv
 have hBl:=GW J
 have U:=me B (o+b.length)
 have hs:=CG U hc hbo
 have FM:lm xs (o+b.length)+4294967296*(if lm xs (o+b.length)<c+bo then 1 else 0)-(c+bo)<4294967296:=by split<;>omega
 have hbw:(if lm xs (o+b.length)<c+bo then 1 else 0)<=1:=by split<;>omega
 have hde:lm xs (o+b.length)+4294967296*(if lm xs (o+b.length)<c+bo then 1 else 0)-(c+bo)+(c+bo)=lm xs (o+b.length)+4294967296*(if lm xs (o+b.length)<c+bo then 1 else 0):=by split<;>omega
 generalize lm xs (o+b.length)+4294967296*(if lm xs (o+b.length)<c+bo then 1 else 0)-(c+bo)=D at *
 generalize (if lm xs (o+b.length)<c+bo then 1 else 0)=B2 at *
 have oH:=DX (a:=xs.drop o) (i:=b.length) (D:Int) (by simp; omega)
 rw[zA,sr,<- fT]at oH
 have z2q:=z2O hv oH hde
 have hl1:qx (xs.set (o+b.length) (D:Int)):=kh B _ FM
 have Yk:(xs.set (o+b.length) (D:Int)).length=u.length:=by simpa using hn
 have ht1:(xs.set (o+b.length) (D:Int)).take o=u.take o:=by rw[zT (Z),ht]
 have hd1:((xs.set (o+b.length) (D:Int)).drop o).drop (b.length+1)=(u.drop o).drop (b.length+1):=by
  rw[fT,cU]
  have:=congrArg (xO 1) V
  rw[qF,qF]at this
  simpa[xF,qH]using this
 have hz:=XU (sq hu o) (b.length+1) (by simp; omega) B4
 have z2w:nv ((xs.set (o+b.length) (D:Int)).drop o)<4294967296 ^ (b.length+1):=Jc (sq hl1 o) _ (by simp; omega) (by rw[hd1]; exact hz)
 have zoG:(4294967296:Nat) ^ (b.length+1)=4294967296 ^ b.length*4294967296:=zE ..
 have ec:kT (c:Int)=c:=Ya hc
 unfold tH
 rw[gx _ rfl,gx _ rfl,zt hr]
 simp only[zA,bK,pL B,ec]
 rw[vP _ (Z) (Z),ik _ rfl (Z),zt hs]
 simp only
 rw[vP _ (Z) (Z),ik _ rfl (Z)]
 generalize hX:xs.set (o+b.length) (D:Int)=h2 at *
 rcases qC B2 with z | z
 ·subst z
  rw[vK (qw),gx _ (Z),xy]
  grind
 ·have hB2:B2=1:=Z
  subst hB2
  have wO:nv (u.drop o)<q*nv b:=Z
  obtain⟨⟨_,_,ys⟩,hr2,rfl,m,rfl,hm,Qd,Dz,Tz,hd2,HP⟩:=zfu b J lb h2 hl1 o (Z)
  simp only at Qd Dz Tz hd2 HP
  have hy:=me Qd (o+b.length)
  have eu:kT ((lm ys (o+b.length):Int)+(m:Int))=(((lm ys (o+b.length)+m) % 4294967296:Nat):Int):=by rw[<- z2Q]; rfl
  rw[ji (qw),xg rfl,gx _ (Z),zt hr2]
  simp only[zA,bK,pL Qd,eu]
  rw[vP _ (Z) (Z),ik _ rfl (Z),vP _ (Z) (Z),ik _ rfl (Z),gx _ (qw),xy]
  have zbK:=DX (a:=ys.drop o) (i:=b.length) (((lm ys (o+b.length)+m) % 4294967296:Nat):Int) (by simp; omega)
  rw[zA,sr,<- fT]at zbK
  have hl3:qx (ys.set (o+b.length) (((lm ys (o+b.length)+m) % 4294967296:Nat):Int)):=kh Qd _ (Z)
  have hd3:((ys.set (o+b.length) (((lm ys (o+b.length)+m) % 4294967296:Nat):Int)).drop o).drop (b.length+1)=(u.drop o).drop (b.length+1):=by
   rw[fT,cU,<- hd1]
   have:=congrArg (xO 1) hd2
   rw[qF,qF]at this
   simpa[xF,qH]using this
  have ziq:nv ((ys.set (o+b.length) (((lm ys (o+b.length)+m) % 4294967296:Nat):Int)).drop o)<4294967296 ^ (b.length+1):=Jc (sq hl3 o) _ (by simp; omega) (by rw[hd3]; exact hz)
  refine⟨_,by rw[decide_eq_true wO],hl3,by simp; omega,?_,?_⟩
  ·rw[zT (Z),Tz,ht1]
  ·rw[if_pos wO]
   generalize nv ((ys.set (o+b.length) (((lm ys (o+b.length)+m) % 4294967296:Nat):Int)).drop o)=z6 at *
   obtain⟨p,rfl⟩:∃ p,q=p+1:=⟨q-1,by
    rcases qC q with h | h
    ·subst h; omega
    ·omega⟩
   rw[zoG]at ziq
   exact z16 zbK HP z2q ziq ziu hm hy
def Qf:zn:=[0,1,2,2,3,3,3,3,4,4,4,4,4,4,4,4]++I 16 5++I 32 6++I 64 7++I 128 8
theorem TN:∀ y:Fin 256,y.val≠0->1<=(Qf.getD y.val 0).toNat/\(Qf.getD y.val 0).toNat<=8/\2 ^ ((Qf.getD y.val 0).toNat-1)<=y.val/\y.val<2 ^ (Qf.getD y.val 0).toNat:=by decide +kernel
set_option maxRecDepth 100000 in
theorem MJ:Qf.length=256:=by rfl
theorem len8{y:Nat}(h0:0<y)(h:y<256):∃ t:Nat,vx Qf (y:Int)=(t:Int)/\1<=t/\t<=8/\2 ^ (t-1)<=y/\y<2 ^ t:=by
 have:=TN ⟨y,h⟩ (by simp; omega)
 refine⟨(Qf.getD y 0).toNat,?_,this⟩
 unfold vx
 rw[zA]
theorem Sa{x s:Nat}(hs:s<=32):j8 .u32 (x:Int) (s:Int)=((x / 2 ^ s:Nat):Int):=by
 show Int.fdiv (x:Int) (2 ^ (min (s:Int).toNat 32))=_
 grind
set_option maxRecDepth 100000 in
theorem TM{x:Nat}(h0:0<x)(h:x<4294967296):∃ t:Nat,(fx (x:Int)).run=some (t:Int)/\1<=t/\t<=32/\2 ^ (t-1)<=x/\x<2 ^ t:=by
 have zpO:fx (x:Int)=(.zl (((decide ((65536:Int)<=(x:Int)))=true)->((0:Int)<=(16:Int))) <|
  .zl (((decide ((256:Int)<=(bif (decide ((65536:Int)<=(x:Int)))then(j8 .u32 (x:Int) (16:Int))else(x:Int))))=true)->((0:Int)<=(8:Int))) <|
  .zl (xe (wu8 (bif (decide ((256:Int)<=(bif (decide ((65536:Int)<=(x:Int)))then(j8 .u32 (x:Int) (16:Int))else(x:Int))))then(j8 .u32 (bif (decide ((65536:Int)<=(x:Int)))then(j8 .u32 (x:Int) (16:Int))else(x:Int)) (8:Int))else(bif (decide ((65536:Int)<=(x:Int)))then(j8 .u32 (x:Int) (16:Int))else(x:Int)))) Qf.length) <|
  .ret (q9 ((bif (decide ((256:Int)<=(bif (decide ((65536:Int)<=(x:Int)))then(j8 .u32 (x:Int) (16:Int))else(x:Int))))then(q9 ((bif (decide ((65536:Int)<=(x:Int)))then(16:Int)else(0:Int))+(8:Int)))else(bif (decide ((65536:Int)<=(x:Int)))then(16:Int)else(0:Int)))+(q9 (vx Qf (wu8 (bif (decide ((256:Int)<=(bif (decide ((65536:Int)<=(x:Int)))then(j8 .u32 (x:Int) (16:Int))else(x:Int))))then(j8 .u32 (bif (decide ((65536:Int)<=(x:Int)))then(j8 .u32 (x:Int) (16:Int))else(x:Int)) (8:Int))else(bif (decide ((65536:Int)<=(x:Int)))then(j8 .u32 (x:Int) (16:Int))else(x:Int)))))))):T Int):=by rfl
 rw[zpO,MJ]
 -- y: what is left; k: how many bits ahead of it
 obtain⟨y,k,e1,e2,hk,hy0,hy,hlo,hhi⟩:∃ y k:Nat,(bif (decide ((256:Int)<=(bif (decide ((65536:Int)<=(x:Int)))then(j8 .u32 (x:Int) (16:Int))else(x:Int))))then(j8 .u32 (bif (decide ((65536:Int)<=(x:Int)))then(j8 .u32 (x:Int) (16:Int))else(x:Int)) (8:Int))else(bif (decide ((65536:Int)<=(x:Int)))then(j8 .u32 (x:Int) (16:Int))else(x:Int)))=(y:Int) /\
   (bif (decide ((256:Int)<=(bif (decide ((65536:Int)<=(x:Int)))then(j8 .u32 (x:Int) (16:Int))else(x:Int))))then(q9 ((bif (decide ((65536:Int)<=(x:Int)))then(16:Int)else(0:Int))+(8:Int)))else(bif (decide ((65536:Int)<=(x:Int)))then(16:Int)else(0:Int)))=(k:Int) /\
   k<=24/\0<y/\y<256/\y*2 ^ k<=x/\x<(y+1)*2 ^ k:=by
  have s16:j8 .u32 (x:Int) 16=((x / 65536:Nat):Int):=Sa (s:=16) (Z)
  have s8:∀ z:Nat,j8 .u32 (z:Int) 8=((z / 256:Nat):Int):=λz=>Sa (s:=8) (Z)
  by_cases c1:65536<=x
  ·rw[show decide ((65536:Int)<=(x:Int))=true from decide_eq_true (Z)]
   simp only[cond_true,s16]
   by_cases c2:256<=x / 65536
   ·rw[show decide ((256:Int)<=((x / 65536:Nat):Int))=true from decide_eq_true (Z)]
    simp only[cond_true,s8]
    exact⟨x / 65536 / 256,24,rfl,qh,Z,Z,Z,Z,Z⟩
   ·rw[show decide ((256:Int)<=((x / 65536:Nat):Int))=false from decide_eq_false (Z)]
    simp only[cond_false]
    exact⟨x / 65536,16,rfl,rfl,Z,Z,Z,Z,Z⟩
  ·rw[show decide ((65536:Int)<=(x:Int))=false from decide_eq_false (Z)]
   simp only[cond_false]
   by_cases c2:256<=x
   ·rw[show decide ((256:Int)<=(x:Int))=true from decide_eq_true (Z)]
    simp only[cond_true,s8]
    exact⟨x / 256,8,rfl,qh,Z,Z,Z,Z,Z⟩
   ·rw[show decide ((256:Int)<=(x:Int))=false from decide_eq_false (Z)]
    simp only[cond_false]
    exact⟨x,0,rfl,rfl,Z,Z,Z,Z,Z⟩
 obtain⟨t,t1,t2,t3,t4,t5⟩:=len8 hy0 hy
 rw[e1,e2,zfD (Z) (Z),t1,qs (x:=(t:Int)) (Z) (Z),qs (Z) (Z)]
 refine⟨k+t,?_,Z,Z,?_,?_⟩
 ·rw[xg (λ_=>Z),xg (λ_=>Z),vP _ (Z) (Z),xy]; rfl
 ·rw[show k+t-1=(t-1)+k by omega,qB]
  exact zN (Y _ t4) hlo
 ·rw[show k+t=t+k by omega,qB]
  exact Nat.lt_of_lt_of_le hhi (Y _ t5)
theorem z3X{x:Nat}(h0:0<x)(h:x<4294967296):∃ s:Nat,(kA (x:Int)).run=some (s:Int)/\s<32/\2147483648<=x*2 ^ s/\x*2 ^ s<4294967296:=by
 obtain⟨t,t1,t2,t3,t4,t5⟩:=TM h0 h
 refine⟨32-t,?_,Z,?_,?_⟩
 ·unfold kA
  rw[zt t1,xy,qs (Z) (Z)]
  grind
 ·have:=Y (2 ^ (32-t)) t4
  rw[<- qB,show t-1+(32-t)=31 by omega]at this
  exact this
 ·have:=qE t5 (show 0<2 ^ (32-t)from zU (Z))
  rw[<- qB,show t+(32-t)=32 by omega]at this
  exact this
theorem horner(a b c:Nat):(a*4294967296+b)*4294967296+c=a*18446744073709551616+b*4294967296+c:=by
 rw[Nat.add_mul,qK]
theorem Mo{u2 u1 u0 v1 v2:Nat}(X:u2<4294967296)(h1:u1<4294967296)(h0:u0<4294967296)(hv1:v1<4294967296)(HP:v2<4294967296)(hn:2147483648<=v1)
  (ht:(u2*4294967296+u1)*4294967296+u0<(v1*4294967296+v2+1)*4294967296) :
  (rh (u2:Int) (u1:Int) (u0:Int) (v1:Int) (v2:Int)).run=some ((min (((u2*4294967296+u1)*4294967296+u0) / (v1*4294967296+v2)) 4294967295:Nat):Int):=by
 rw[horner]at ht ⊢
 exact Tk X h1 h0 hv1 HP hn ht
theorem z5e(a b P t:Nat):t+P*b+P*4294967296*a=(a*4294967296+b)*P+t:=wa
theorem znC(d:List Int)(n:Nat)(hn:d.length=n+2):nv d=(lm d (n+1)*4294967296+lm d n)*4294967296 ^ n+nv (d.take n):=by
 have h1:=vj d n
 have X:=vj d (n+1)
 rw[gX (Z)]at X
 rw[X,h1,zE,z5e]
theorem z5f{hl a b c P Bu t1 t2 t3:Nat}(h1:t1=Bu+P*c)(X:t2=t1+P*hl*b)(h3:t3=t2+P*hl*hl*a):t3=((a*hl+b)*hl+c)*P+Bu:=by
 rw[h3,X,h1]; grind
theorem zs8(w:List Int)(n:Nat)(h:nv (w.drop (n+1+1+1))=0):nv w=((lm w (n+1+1)*4294967296+lm w (n+1))*4294967296+lm w n)*4294967296 ^ n+nv (w.take n):=by
 have h0:nv w=nv (w.take (n+1+1+1)):=by
  by_cases c:n+1+1+1<=w.length
  ·have:=nU w (n+1+1+1) c
   rw[h,Nat.mul_zero,qI]at this; exact this
  ·rw[gX (Z)]
 have h1:=vj w n
 have X:=vj w (n+1)
 have h3:=vj w (n+1+1)
 rw[zE]at X
 rw[zE,zE,<- h0]at h3
 exact z5f h1 X h3
theorem MK{a b:List Int}{k i:Nat}(h:a.take k=b.take k)(hi:i<k):lm a i=lm b i:=by
 have e:=congrArg (λl=>l[i]?) h
 simp only[qZ,if_pos hi]at e
 unfold lm nth
 rw[zQ,zQ,zA,e]
theorem zfx{U3 V2 D h2 zB hx hd:Nat}(hU:hx=U3*D+h2)(hV:hd=V2*D+zB)(hY:zB<D)(hUV:hx<hd*4294967296):U3<(V2+1)*4294967296:=by
 have h1:U3*D<(V2+1)*4294967296*D:=by
  have e:(V2+1)*4294967296*D=(V2*D+D)*4294967296:=wa
  rw[e]
  have:hd*4294967296<=(V2*D+D)*4294967296:=Y _ (Z)
  omega
 exact zW h1
theorem z0z(d:List Int)(V:qx d)(n:Nat)(hn:d.length=n+2)(I0:2147483648<=lm d (n+1))(w:List Int)(hw:qx w)(hwl:n+1+1+1<=w.length)(hW:nv w<nv d*4294967296) :
  ∃ x:Nat,(rh (lm w (n+1+1):Int) (lm w (n+1):Int) (lm w n:Int) (lm d (n+1):Int) (lm d n:Int)).run=some (x:Int)/\x<4294967296/\nv w / nv d<=x/\x<=nv w / nv d+1/\nv w<4294967296 ^ (d.length+1):=by
 have FM:=GW V
 have hdt:=znC d n hn
 have hdn:=cE V n
 have hWp:nv w<4294967296 ^ (d.length+1):=by
  rw[zE]
  exact Nat.lt_of_lt_of_le hW (Y _ (Nat.le_of_lt FM))
 have hz:=XU hw (d.length+1) (Z) hWp
 rw[show d.length+1=n+1+1+1 by omega]at hz
 have ht3:=zs8 w n hz
 have hwn:=cE hw n
 have hU3:=zfx ht3 hdt hdn hW
 refine⟨_,Mo (me hw _) (me hw _) (me hw _) (me V _) (me V _) I0 hU3,?_,?_,?_,hWp⟩
 ·exact zF (Nat.min_le_right _ _) (qh)
 ·refine(Ol ht3 hwn hdt hdn ?_ hW rfl).1
  exact zN (Y 4294967296 I0) (Nat.le_add_right _ _)
 ·refine(Ol ht3 hwn hdt hdn ?_ hW rfl).2
  exact zN (Y 4294967296 I0) (Nat.le_add_right _ _)
theorem zqC{oE hd x:Nat}(g2:x<=oE / hd+1):x*hd<=oE+hd:=by
 have h1:=Y hd g2
 have X:=qY oE hd
 rw[Nat.add_mul,Nat.one_mul]at h1
 omega
theorem digit{oE hd x:Nat}(hV:0<hd)(g1:oE / hd<=x)(g2:x<=oE / hd+1):(if oE<x*hd then x-1 else x)=oE / hd:=by
 have hdm:=qD oE hd
 have hml:=zX oE hV
 have hz:0<=oE / hd:=xE _
 split
 ·rename_i c
  have:x≠oE / hd:=by
   intro h
   rw[h,R]at c; omega
  generalize oE / hd=z at *
  omega
 ·rename_i c
  have hle:x<=oE / hd:=(zM hV).2 (Z)
  exact Nat.le_antisymm hle g1
theorem zfB{l N hd:Nat}(B:l<4294967296)(hN:N<hd):l+4294967296*N<hd*4294967296:=by
 have:=zI 4294967296 (show N+1<=hd from hN)
 omega
theorem ML(d:List Int)(V:qx d)(n:Nat)(hn:d.length=n+2)(ln:n<=999999990)(I0:2147483648<=lm d (n+1))(y:Int)(i:Nat)(li:i<=1000000000)(u q:List Int)(B:qx u)(lu:u.length<=2000000000)(hiu:i+d.length<u.length)
  (hq:qx q) (hiq:i<q.length) (wO:nv (u.drop (i+1))<nv d) :
  ∃ (xs:List Int) (z:Nat),(nT y d ((n+2:Nat):Int) ((i:Int),u,q)).run=some (.inl ((i:Int)-1,xs,q.set i (z:Int)))/\z<4294967296/\qx xs/\xs.length=u.length/\xs.take i=u.take i/\nv (xs.drop i)<nv d /\
   nv (xs.drop i)+z*nv d=lm u i+4294967296*nv (u.drop (i+1)):=by
 have hwd:=YE (a:=u) (i:=i) (Z)
 have hW:=zfB (me B i) wO
 rw[<- hwd]at hW
 obtain⟨x,hg,U,g1,g2,hWp⟩:=z0z d V n hn I0 (u.drop i) (sq B i) (by rw[List.length_drop]; omega) hW
 have hdp:0<nv d:=zF (xE _) wO
 obtain⟨xs,hr,Lt,hxn,hxt,Ox⟩:=z0u d V (Z) x U u B (Z) i hiu hWp (zqC g2)
 have zdz:=digit hdp g1 g2
 rw[zdz]at Ox
 rw[sr,sr,sr]at hg
 have hdq:nv (u.drop i) / nv d<4294967296:=zF g1 U
 have zdK:nv (xs.drop i)<nv d:=by
  have h1:=qD (nv (u.drop i)) (nv d)
  have X:=zX (nv (u.drop i)) hdp
  grind
 refine⟨xs,nv (u.drop i) / nv d,?_,hdq,Lt,hxn,hxt,zdK,by rw[Ox,hwd]⟩
 have hx1:∀ c:Bool,c=decide (nv (u.drop i)<x*nv d)->(if c=true then xo ((x:Int)-1)else(x:Int))=((nv (u.drop i) / nv d:Nat):Int):=by
  intro c hc
  rw[<- zdz]
  by_cases cc:nv (u.drop i)<x*nv d
  ·have YC:x≠0:=by intro h; subst h; omega
   rw[hc,decide_eq_true cc,if_pos rfl,if_pos cc,b9 (Z) (Z)]; omega
  ·grind
 generalize nv (u.drop i) / nv d=z at *
 clear g1 g2 Ox zdz hW hWp wO zdK hwd
 have ei:q9 ((i:Int)-1)=(i:Int)-1:=qs (Z) (Z)
 have a0:q9 ((i:Int)+((n+2:Nat):Int))=((i+(n+1+1):Nat):Int):=by rw[qs (Z) (Z)]; omega
 have a1:q9 (((i+(n+1+1):Nat):Int)-1)=((i+(n+1):Nat):Int):=by rw[qs (Z) (Z)]; omega
 have a2:q9 (((i+(n+1+1):Nat):Int)-2)=((i+n:Nat):Int):=by rw[qs (Z) (Z)]; omega
 have a3:q9 (((n+2:Nat):Int)-1)=((n+1:Nat):Int):=by rw[qs (Z) (Z)]; omega
 have a4:q9 (((n+2:Nat):Int)-2)=((n:Nat):Int):=by rw[qs (Z) (Z)]; omega
 have a5:q9 (((i+(n+1+1):Nat):Int)+1)=((i+(n+1+1)+1:Nat):Int):=i1 _ (Z)
 have zqr:i+(n+1+1)+1-i=d.length+1:=Z
 unfold nT
 simp only[ei,a0,a1,a2,a3,a4,a5]
 rw[vK (qw)]
 rw[vP _ (Z) (Z),ik _ rfl (Z),vP _ (Z) (Z),ik _ rfl (Z),vP _ (Z) (Z),ik _ rfl (Z),vP _ (Z) (Z),vP _ (Z) (Z)]
 simp only[zA,Nat.zero_add,bK,pL B,lr V,zqr]
 rw[zt hg]
 have hc:=hx1 _ rfl
 rw[zt (a:=((z:Int),xs,q)) ?_]
 ·simp only[Ya hdq]
  rw[vP _ (Z) (Z),ik _ rfl (Z),bG _ (qw) rfl (qw),bG _ rfl rfl rfl,xg rfl,gx _ (qw),xy]
 ·rw[W6 _ (Z) (Z) (Z),xg rfl,xg rfl,zt hr]
  simp only[IQ]
  by_cases cc:nv (u.drop i)<x*nv d
  ·rw[if_pos (decide_eq_true cc)]at hc ⊢
   rw[bG _ rfl rfl rfl,bG _ (Z) rfl (Z),xg rfl,xg rfl,xy,hc]
  ·rw[if_neg (by simpa using cc)]at hc ⊢
   rw[bG _ rfl rfl rfl,bG _ (Z) rfl (Z),xg rfl,xg rfl,xy,hc]
theorem z01(d:List Int)(V:qx d)(m n:Nat)(hn:d.length=n+2)(hm:n+2<=m)(lm':m<=999999990)(I0:2147483648<=lm d (n+1))(u0:List Int)(hu0:qx u0)(hlu:u0.length=m+1)
  (ud:nv (u0.drop (m-(n+2)+1))<nv d) (y:Int) :
  ∃ r:List Int×List Int,(KP y d ((n+2:Nat):Int) (((m-(n+2):Nat):Int),u0,I (m-(n+2)+1) 0)).run=some r/\qx r.1/\r.1.length=m+1/\qx r.2/\r.2.length=m-(n+2)+1/\nv r.1<nv d/\nv u0=nv r.2*nv d+nv r.1:=by
 refine T.cS (λs:Int×List Int×List Int=>∃ k:Nat,s.1=(k:Int)-1/\k<=m-(n+2)+1/\qx s.2.1/\s.2.1.length=m+1/\qx s.2.2/\s.2.2.length=m-(n+2)+1/\s.2.1.take k=u0.take k /\
   nv (s.2.1.drop k)<nv d/\nv (u0.drop k)=nv (s.2.2.drop k)*nv d+nv (s.2.1.drop k))
  (λs=>(s.1+1).toNat) _ ?_ ⟨m-(n+2)+1,qw,zP _,hu0,hlu,vT _,qw,rfl,ud,qw⟩
 rintro⟨_,u,q⟩ ⟨k,rfl,hk,B,hul,hq,hql,htk,wO,hv⟩
 simp only at B hul hq hql htk wO hv ⊢
 cases k with
 | zero =>
  right
  refine⟨(u,q),?_,B,hul,hq,hql,wa,wa⟩
  unfold nT
  simp
 | succ i =>
  left
  obtain⟨xs,z,hr,hz,Lt,hxn,hxt,hxm,Ox⟩:=ML d V n hn (Z) I0 y i (Z) u q B (Z) (Z) hq (Z) wO
  have e1:((i+1:Nat):Int)-1=(i:Int):=Z
  refine⟨((i:Int)-1,xs,q.set i (z:Int)),wa,⟨i,rfl,Z,Lt,hxn.trans hul,kh hq _ hz,wa,?_,hxm,?_⟩,qw⟩
  ·simp only
   have:=congrArg (List.take i) htk
   grind
  ·simp only
   rw[set_drop _ (Z),zA,YE (a:=u0) (Z),<- MK htk (show i<i+1 by omega)]
   grind
theorem z30{A hl S Q zD:Nat}(hS:0<S)(h:A*S=Q*(hl*S)+zD)(hR:zD<hl*S):Q=A / hl/\zD / S=A % hl:=by
 have hB:0<hl:=zO λz=>by subst z; simp at hR
 have h1:=qD zD S
 have h3:A*S=S*(Q*hl+zD / S)+zD % S:=by
  grind
 have h4:zD % S=0:=by
  have:=congrArg (· % S) h3
  simp only[Nat.mul_mod_left]at this
  rw[qH,Nat.add_mul_mod_self_left,Nat.mod_mod]at this
  grind
 rw[h4,qI,R A]at h3
 have h5:=xC hS h3
 have h6:zD / S<hl:=(zL hS).2 hR
 constructor
 ·rw[h5,R,Nat.mul_add_div hB,qJ h6,qI]
 ·rw[h5,R,Nat.mul_add_mod,qV h6]
theorem z56{A S P D hd h2:Nat}(hA:A<D*P)(hS:S<=2147483648)(hV:2147483648*P<=hd)(hX:h2*D<=A*S)(hD:0<D)(hS0:0<S):h2<hd:=by
 have h1:A*S<D*hd:=by
  have a1:A*S<D*P*S:=qE hA hS0
  have a2:D*P*S<=D*hd:=by
   have:P*S<=hd:=by
    have:=zI P hS
    grind
   rw[qK]
   exact zI D this
  omega
 have X:h2*D<hd*D:=by rw[R hd]; exact zF hX h1
 exact zW X
theorem DR(a b:List Int)(ha:qx a)(J:qx b)(la:a.length<=100000000)(n:Nat)(hbn:b.length=n+2)(hba:b.length<=a.length)(I0:lm b (n+1)≠0) :
  (J9 a b).run=some (vU (nv a / nv b),vU (nv a % nv b)):=by
 have ht:=me J (n+1)
 obtain⟨s,hs,hs1,hs2,hs3⟩:=z3X (x:=lm b (n+1)) (Z) ht
 have ziB:2 ^ s<=2147483648:=by
  have:2 ^ s<=2 ^ 31:=zZ (Z) (Z)
  exact this
 have V7:0<2 ^ s:=zU (Z)
 have hBt:=znC b n hbn
 -- the divisor
 have zbz:nv b*2 ^ s<4294967296 ^ b.length:=by
  have h1:=vj b (n+1)
  rw[gX (Z)]at h1
  have X:=cE J (n+1)
  have h3:nv b<4294967296 ^ (n+1)*(lm b (n+1)+1):=by rw[h1,qP]; omega
  rw[hbn]
  have h4:(lm b (n+1)+1)*2 ^ s<=4294967296:=by
   have hm:4294967296=2 ^ (32-s)*2 ^ s:=ic s (Z)
   have h5:lm b (n+1)<2 ^ (32-s):=by
    rw[hm]at hs3
    exact zW hs3
   have:=Y (2 ^ s) (show lm b (n+1)+1<=2 ^ (32-s)from h5)
   grind
  have h5:nv b*2 ^ s<4294967296 ^ (n+1)*(lm b (n+1)+1)*2 ^ s:=qE h3 V7
  have h6:4294967296 ^ (n+1)*(lm b (n+1)+1)*2 ^ s<=4294967296 ^ (n+2):=by
   rw[qK,zE 4294967296 (n+1)]
   exact zI _ h4
  grind
 obtain⟨d,V,FM,hdn,hdv⟩:=XQ b J (Z) s b.length hs1 (zP _) (Z) zbz
 have zib:nv a*2 ^ s<4294967296 ^ (a.length+1):=by
  have h1:=GW ha
  rw[zE]
  exact xB h1 (zN ziB (Z)) (Z)
 obtain⟨u,hu,hul,hun,huv⟩:=XQ a ha (Z) s (a.length+1) hs1 (Z) (Z) zib
 -- gv highest limb
 have zbv:2147483648<=lm d (n+1):=by
  have h1:=vj d (n+1)
  rw[gX (Z),hdv]at h1
  have X:=cE FM (n+1)
  have h3:=vj b (n+1)
  rw[gX (Z)]at h3
  have h4:4294967296 ^ (n+1)*(lm b (n+1)*2 ^ s)<=nv b*2 ^ s:=by
   rw[<- qK]
   exact Y _ (Z)
  have h5:4294967296 ^ (n+1)*2147483648<=nv b*2 ^ s:=zN (zI _ hs2) h4
  have h6:4294967296 ^ (n+1)*2147483648<4294967296 ^ (n+1)*(lm d (n+1)+1):=by
   rw[qP]; omega
  have:=Nat.lt_of_mul_lt_mul_left h6
  omega
 have ud:nv (u.drop (a.length-(n+2)+1))<nv d:=by
  have h1:=nU u (a.length-(n+2)+1) (Z)
  have X:nv (u.drop (a.length-(n+2)+1))*4294967296 ^ (a.length-(n+2)+1)<=nv a*2 ^ s:=by
   rw[<- huv,h1,R]; omega
  have h3:2147483648*4294967296 ^ (n+1)<=nv d:=by
   have h4:=vj d (n+1)
   rw[gX (Z)]at h4
   have h5:=zI (4294967296 ^ (n+1)) zbv
   rw[R 2147483648]; omega
  have h4:nv a<4294967296 ^ (a.length-(n+2)+1)*4294967296 ^ (n+1):=by
   rw[<- qB,show a.length-(n+2)+1+(n+1)=a.length by omega]
   exact GW ha
  exact z56 h4 ziB h3 X (ID _) V7
 obtain⟨⟨xu,xq⟩,hr,hxu,hxun,hxq,hxqn,hxlt,Ox⟩:=z01 d FM a.length n (Z) (Z) (Z) zbv u hul (Z) ud (s:Int)
 simp only at hxu hxun hxq hxqn hxlt Ox
 rw[huv,hdv]at Ox
 rw[hdv]at hxlt
 obtain⟨f1,f2⟩:=z30 V7 Ox hxlt
 -- the text
 have e1:q9 ((b.length:Int)-1)=((n+1:Nat):Int):=by rw[qs (Z) (Z)]; omega
 have es:xo (s:Int)=s:=mg (Z)
 have e2:q9 ((a.length:Int)+1)=((a.length+1:Nat):Int):=i1 _ (Z)
 have e3:q9 (q9 ((a.length:Int)-((n+2:Nat):Int))+1)=((a.length-(n+2)+1:Nat):Int):=by rw[qs (x:=(a.length:Int)-((n+2:Nat):Int)) (Z) (Z),qs (Z) (Z)]; omega
 have e4:q9 (((a.length-(n+2)+1:Nat):Int)-1)=((a.length-(n+2):Nat):Int):=im1 _ (Z)
 have e5:q9 (s:Int)=s:=qs (Z) (Z)
 have e6:q9 (0-(s:Int)) = -(s:Int):=by rw[qs (Z) (Z)]; omega
 unfold J9
 simp only[e1,e2,bK,lr J]
 rw[vP _ (Z) (Z),zt hs]
 simp only[es]
 rw[zt hu,zt V]
 simp only[e3,e4,e5,e6,zA,zY,Nat.zero_add,qG,List.take_length,hdn,hbn]
 rw[T.run_mk _ (Z) (Z) (Z) (Z),xg rfl,bG _ rfl rfl rfl,bG _ rfl rfl rfl,xg rfl,Hn]
 have zpQ:d.take (n+2)=d:=zK (Z)
 simp only[zpQ]
 rw[zt hr]
 simp only[List.take_length]
 rw[xg rfl,xg rfl,zt (ca xq hxq (Z)),W6 _ (Z) (Z) (Z)]
 have ec:je (e:=.int .u32) 0 ((n+2:Nat):Int) xu=xu.take (n+2):=by unfold je; simp only[zA,Int.toNat_zero,qG]
 have hxt:nv (xu.take (n+2))=nv xu:=by
  have h1:=nU xu (n+2) (Z)
  have X:=XU hxu (n+2) (Z) (Nat.lt_trans hxlt (by rw[<- hbn]; exact zbz))
  rw[X]at h1; omega
 rw[ec]
 have hsh:(mN (xu.take (n+2)) (-(s:Int))).run=some (vU (nv xu / 2 ^ s)):=by
  rcases qC s with z | z
  ·subst z
   have:=HV (xu.take (n+2)) (VJ hxu _) (by simp; omega) 0 (Z)
   rw[hxt]at this
   simpa using this
  ·have:=HU (xu.take (n+2)) (VJ hxu _) (by simp; omega) s (Z) z
   rw[hxt]at this
   exact this
 rw[zt hsh,xy,f2,f1]
theorem zab{A:Nat}(k:Nat)(h:(vU A).length=k+1):lm (vU A) k≠0:=by
 intro hz
 have h1:=vj (vU A) k
 rw[gX (Z),hz,Nat.mul_zero,qI,jA]at h1
 have X:=cE (wK A) k
 have:=uL.2 (show A<4294967296 ^ k by omega)
 omega
theorem iX(a b:List Int)(ha:qx a)(J:qx b)(la:a.length<=100000000)(lb:b.length<=100000000) :
  (dT a b).run=some (if nv b=0 then([],[],false)else(vU (nv a / nv b),vU (nv a % nv b),true)):=by
 have qa:=vO ha
 have qb:=vO J
 unfold dT
 rw[zt (ca a ha (Z)),zt (ca b J (Z))]
 generalize nv a=A at *
 generalize nv b=hl at *
 by_cases hB:hl=0
 ·subst hB
  rw[gY]; simp
 ·have ku:(vU hl).length≠0:=by
   intro h
   exact hB (dV.1 (zG h))
  rw[if_neg hB,ji (by simpa using ku),zt (KM _ _ (wK A) (wK hl) (Z) (Z)),jA,jA]
  by_cases wO:A<hl
  ·rw[vK (by unfold Fh; rw[if_pos wO]; rfl),zt (Z9 _ (wK A) (Z)),xy,jA,qJ wO,qV wO,gY]
  ·rw[ji (by unfold Fh; rw[if_neg wO]; split<;>simp)]
   by_cases h1:(vU hl).length=1
   ·-- by one limb
    have Ls:vU hl=[(hl:Int)]:=by
     rw[WE hB]at h1 ⊢
     have:hl / 4294967296=0:=by
      have:(vU (hl / 4294967296)).length=0:=by simpa using h1
      exact dV.1 (zG this)
     rw[this,gY]
     congr 1; omega
    have hBl:hl<4294967296:=by
     have:=uL.1 (Nat.le_of_eq h1)
     simpa using this
    have e0:nth (vU hl) 0 0=(hl:Int):=by rw[Ls]; rfl
    have hm:=zX A (zO hB)
    have hs:=Vg (vU A) (wK A) (Z) hl (Z) hBl
    rw[jA]at hs
    rw[vK (by rw[h1]; rfl),vP _ (Z) (Z)]
    simp only[bK,e0]
    rw[zt hs]
    simp only[mg (show A % hl<18446744073709551616 by omega)]
    rw[zt (VS _ (Z)),xy]
   ·obtain⟨n,hn⟩:∃ n,(vU hl).length=n+2:=⟨(vU hl).length-2,Z⟩
    have hle:(vU hl).length<=(vU A).length:=by
     rcases Nat.lt_or_ge (vU A).length (vU hl).length with h | h
     ·exact absurd (K9 h) wO
     ·exact h
    have B:=DR (vU A) (vU hl) (wK A) (wK hl) (Z) n hn hle (zab (n+1) (Z))
    rw[jA,jA]at B
    rw[ji (by simp; omega),zt B,xy]
theorem KN(a b:List Int)(ha:qx a)(J:qx b)(la:a.length<=100000000)(lb:b.length<=100000000):(WB a b).run=some (vU (zJ (nv a) (nv b))):=by
 have qa:=vO ha
 have qb:=vO J
 unfold WB
 rw[zt (Z9 a ha (Z)),zt (Z9 b J (Z))]
 generalize nv a=A at *
 generalize nv b=hl at *
 have key:(GU (vU A,vU hl)).run=some (vU (zJ A hl)):=by
  have:=XL (r:=sx) (λs:List Int×List Int=>∃ A hl:Nat,s=(vU A,vU hl)/\(vU A).length<=100000000/\(vU hl).length<=100000000)
   (λs=>nv s.2) (λs=>vU (zJ (nv s.1) (nv s.2))) ?_ (s:=(vU A,vU hl)) ⟨A,hl,rfl,Z,Z⟩
  ·rw[jA,jA]at this; exact this
  ·rintro _ ⟨A,hl,rfl,hA,hB'⟩
   simp only[jA]
   by_cases hB:hl=0
   ·right
    subst hB
    unfold sx
    rw[gY]; simp
   ·left
    have V:=iX (vU A) (vU hl) (wK A) (wK hl) hA hB'
    rw[jA,jA,if_neg hB]at V
    have hm:=zX A (zO hB)
    have ku:(vU hl).length≠0:=λh=>hB (dV.1 (zG h))
    refine⟨(vU hl,vU (A % hl)),?_,⟨hl,A % hl,rfl,hB',?_⟩,by simpa using hm,?_⟩
    ·unfold sx
     rw[vK (by simp; omega),zt V,xy]
    ·have:(vU (A % hl)).length<=(vU hl).length:=uL.2 (Nat.lt_trans hm (uL.1 (zP _)))
     omega
    ·simp only[jA]
     rw[Nat.gcd_comm,<- Nat.gcd_rec,Nat.gcd_comm]
 rw[zt key,xy]
theorem z4y:qx [(1:Int)]:=by
 intro x U; simp at U; omega
@[simp] theorem Df:zb (.int .u8)=(0:Int):=rfl
theorem z7s(r:Nat):vx ([48,49,50,51,52,53,54,55,56,57]:zn) ((r % 10:Nat):Int)=((48+r % 10:Nat):Int):=by
 have key:∀ d:Fin 10,vx ([48,49,50,51,52,53,54,55,56,57]:zn) ((d.val:Nat):Int)=((48+d.val:Nat):Int):=qh
 exact key ⟨r % 10,Z⟩
theorem Tj(q:List Int)(rest:Nat)(hr:rest<4294967296)(xs:List Int)(U:xs.length<=1000000000):(Qm q ((rest:Int),0,xs)).run=some (xs++Qu 9 rest):=by
 have:=XL (r:=l9 q) (λs:Int×Int×List Int=>∃ (r k:Nat),s.1=(r:Int)/\r<4294967296/\s.2.1=(k:Int)/\k<=9/\s.2.2.length<=1000000000+k)
  (λs=>9-s.2.1.toNat) (λs=>s.2.2++Qu (9-s.2.1.toNat) s.1.toNat) ?_ (s:=((rest:Int),0,xs)) ⟨rest,0,rfl,hr,rfl,Z,Z⟩
 ·unfold Qm
  grind
 ·rintro⟨_,_,ys⟩ ⟨r,k,rfl,h1,rfl,X,h3⟩
  simp only at h3 ⊢
  by_cases hk:k<9
  ·left
   have e1:xL (r:Int) 10=((r % 10:Nat):Int):=by rw[Wf (Z)]; rfl
   have e2:kT (xK (r:Int) 10)=((r / 10:Nat):Int):=by rw[We (Z)]; exact Ya (n:=r / 10) (Z)
   refine⟨(((r / 10:Nat):Int),((k+1:Nat):Int),ys++[((48+r % 10:Nat):Int)]),?_,⟨r / 10,k+1,rfl,Z,rfl,Z,wa⟩,wa,?_⟩
   ·unfold l9
    simp only[e1,z7s]
    rw[vK (wa)]
    simp(disch:=omega) [oI]
   ·simp only[zA]
    rw[show 9-k=(9-(k+1))+1 by omega,Qu]
    simp
  ·right
   have:k=9:=Z
   subst this
   unfold l9
   simp[Qu]
theorem D2(n j:Nat)(h:n<4294967296 ^ j):(blk n).length<=18*j:=by
 induction j generalizing n with
 | zero =>
  have:n=0:=by simpa using h
  subst this; rw[Xj]; simp
 | succ j ih =>
  by_cases hn:n=0
  ·grind
  ·rw[Yt hn]
   by_cases X:n / 1000000000=0
   ·rw[X,Xj]; simp[IE]; omega
   ·rw[Yt X]
    have h3:n / 1000000000 / 1000000000<4294967296 ^ j:=by
     grind
    have:=ih _ h3
    simp[IE]; omega
theorem Ml(n:Nat)(hn:(vU n).length<=1000000):(Ql (vU n,[])).run=some (blk n):=by
 have hbl:=D2 n (vU n).length (uL.1 (zP _))
 have:=XL (r:=l8) (λs:List Int×List Int=>∃ m:Nat,s.1=vU m/\(vU m).length<=1000000/\s.2.length+(blk m).length<=18000000)
  (λs=>nv s.1) (λs=>s.2++blk (nv s.1)) ?_ (s:=(vU n,[])) ⟨n,rfl,hn,wa⟩
 ·unfold Ql
  simpa using this
 ·rintro⟨_,xs⟩ ⟨m,rfl,h1,X⟩
  simp only[jA]at X ⊢
  by_cases hm:m=0
  ·right
   subst hm
   unfold l8
   rw[gY,Xj]; simp
  ·left
   have ku:(vU m).length≠0:=λh=>hm (dV.1 (zG h))
   have hs:(ri (vU m) 1000000000).run=some (vU (nv (vU m) / 1000000000),((nv (vU m) % 1000000000:Nat):Int)):=Vg (vU m) (wK m) (Z) 1000000000 (Z) (Z)
   rw[jA]at hs
   have hbm:=Yt hm
   have hg:=Tj (vU (m / 1000000000)) (m % 1000000000) (Z) xs (Z)
   have hlen:(vU (m / 1000000000)).length<=(vU m).length:=uL.2 (zF (qM _ _) (uL.1 (zP _)))
   refine⟨(vU (m / 1000000000),xs++Qu 9 (m % 1000000000)),?_,⟨m / 1000000000,rfl,Z,?_⟩,?_,?_⟩
   ·unfold l8
    rw[vK (wa),zt hs]
    rw[bG _ rfl rfl rfl,xg rfl,zt hg,bG _ rfl rfl rfl,xg rfl,xy]
   ·grind
   ·simp only[jA]; omega
   ·simp only[jA]
    grind
theorem z0r(l:List Int)(z:Nat)(B:l≠[])(zik:∀ x,l.getLast? = some x->x≠48)(hn:l.length+z<=100000000) :
  (J4 ((0,(l++I z 48).length),l++I z 48)).run=some ((0,l.length),l++I z 48):=by
 generalize hX:l++I z 48=h2
 have hXl:h2.length=l.length+z:=by rw[<- hX]; simp
 have V6:0<l.length:=List.length_pos_iff.2 B
 have Tq:∀ p:Nat,wB h2 p 0=if p<l.length then wB l p 0 else if p<l.length+z then 48 else 0:=by
  intro p
  unfold wB
  grind
 have:=XL (r:=lf) (λs:(Nat×Nat)×List Int=>∃ k:Nat,s.1=(0,l.length+k)/\k<=z/\s.2=h2) (λs=>s.1.2) (λ_=>((0,l.length),h2)) ?_ (s:=((0,h2.length),h2)) ⟨z,by rw[hXl],zP _,rfl⟩
 ·exact this
 ·rintro⟨w,y⟩ ⟨k,h1,hk,X⟩
  simp only at h1 X
  rw[h1,X]
  have e1:q9 (((l.length+k:Nat):Int)-1)=((l.length+k-1:Nat):Int):=by rw[qs (Z) (Z)]; omega
  have hg:=Tq (l.length+k-1)
  cases k with
  | zero =>
   right
   have hgl:wB l (l.length-1) 0≠48:=by
    refine zik _ ?_
    rw[List.getLast?_eq_getElem?]
    unfold wB
    grind
   rw[qI]at hg
   rw[if_pos (Z)]at hg
   unfold lf
   simp only[qI]at e1 ⊢
   simp only[e1,zA,Nat.zero_add,Df,hg]
   rw[xg (λ_=>⟨⟨Z,Z⟩,⟨rfl,Z⟩⟩),ji (by simp[hgl]),xg rfl,xg rfl,xy]
  | succ k =>
   left
   refine⟨((0,l.length+k),h2),?_,⟨k,rfl,Z,rfl⟩,qw,rfl⟩
   unfold lf
   simp only[e1,zA,Nat.zero_add,Df,hg]
   rw[xg (λ_=>⟨⟨Z,Z⟩,⟨rfl,Z⟩⟩),vK (by simp; omega),W6 _ (Z) (Z) (Z),xg rfl,xg rfl,xy]
   simp
theorem IP(xs:List Int)(n:Nat)(hn:n<=xs.length)(U:xs.length<=1000000000):∃ ys:List Int,(kD (0,n) xs).run=some ys/\ys.length=xs.length/\ys.take n=(xs.take n).reverse:=by
 have e0:q9 ((n:Int)-1)=(n:Int)-1:=qs (Z) (Z)
 have loop:∃ ys:List Int,(dy ((0,n),0,(n:Int)-1,xs)).run=some ys/\ys.length=xs.length/\∀ p,p<n->ys[p]? = xs[n-1-p]? := by
  refine T.cS (λs:(Nat×Nat)×Int×Int×List Int=>s.1=(0,n)/\∃ i:Nat,s.2.1=(i:Int)/\s.2.2.1=(n:Int)-1-(i:Int)/\i<=n/\s.2.2.2.length=xs.length/\2*i<=n+1/\∀ p,p<n->s.2.2.2[p]? = if p<i\/n<p+i+1 then xs[n-1-p]? else xs[p]?)
   (λs=>n-s.2.1.toNat) _ ?_ ⟨rfl,0,rfl,qw,Z,rfl,Z,λp hp=>by rw[if_neg (Z)]⟩
  rintro⟨_,_,_,zs⟩ ⟨rfl,i,rfl,rfl,hi,B,h2i,hv⟩
  simp only at B hv ⊢
  by_cases wO:(i:Int)<(n:Int)-1-(i:Int)
  ·left
   have hj:((n:Int)-1-(i:Int)).toNat=n-1-i:=Z
   have ej:q9 ((n:Int)-1-(i:Int)-1)=(n:Int)-1-((i+1:Nat):Int):=by rw[qs (Z) (Z)]; omega
   refine⟨((0,n),((i+1:Nat):Int),(n:Int)-1-((i+1:Nat):Int),(zs.set i (wB zs (n-1-i) 0)).set (n-1-i) (wB zs i 0)),?_,⟨rfl,i+1,rfl,rfl,Z,by simpa using B,Z,?_⟩,by simp; omega⟩
   ·unfold jo
    simp only[hj,zA,Nat.zero_add,Df,i1 i (Z),ej]
    rw[vK (decide_eq_true wO),vP _ (Z) (Z),ik _ rfl (Z),vP _ (Z) (Z),ik _ rfl (Z),vP _ (Z) (Z),ik _ rfl (Z),vP _ (Z) (Z),ik _ (qw) (by simp; omega),xg rfl,gx _ (qw),xy]
   ·intro p hp
    have g1:=hv i (Z)
    have g2:=hv (n-1-i) (Z)
    rw[if_neg (Z)]at g1 g2
    simp only[List.getElem?_set,List.length_set]
    by_cases c1:n-1-i=p
    ·rw[if_pos c1,if_pos (Z),if_pos (Z)]
     unfold wB
     grind
    ·rw[if_neg c1]
     by_cases c2:i=p
     ·rw[if_pos c2,if_pos (Z),if_pos (Z)]
      unfold wB
      grind
     ·grind
  ·right
   refine⟨zs,?_,B,λp hp => ?_⟩
   ·unfold jo
    rw[ji (decide_eq_false wO),gx _ rfl,xy]
   ·grind
 obtain⟨ys,hr,B,hv⟩:=loop
 refine⟨ys,?_,B,?_⟩
 ·unfold kD
  rw[gx _ rfl,gx _ rfl,e0,zt hr,gx _ rfl,xy]
 ·apply List.ext_getElem?
  intro p
  by_cases hp:p<n
  ·have Qd:(xs.take n).length=n:=by simp; omega
   rw[qZ,if_pos hp,hv p hp,List.getElem?_reverse (Z),Qd,qZ,if_pos (Z)]
  ·rw[qU (by simp; omega),qU (by simp; omega)]
theorem Bf(a:List Int)(ha:qx a)(la:a.length<=1000000):(mM a).run=some (pr (nv a)):=by
 have qa:=vO ha
 unfold mM
 rw[zt (Z9 a ha (Z))]
 generalize nv a=n at *
 by_cases hn:n=0
 ·subst hn; rw[gY]; simp[pr]
 ·have ku:(vU n).length≠0:=λh=>hn (dV.1 (zG h))
  rw[ji (by simpa using ku),bG _ rfl rfl rfl,gx _ rfl,zt (Ml n (Z))]
  have hbl:=D2 n (vU n).length (uL.1 (zP _))
  obtain⟨z,hz⟩:=z1b n
  have hzl:=congrArg List.length hz
  rw[List.length_append,zY]at hzl
  have ud:=z0r (rd n) z (zc8 hn) (zaF n) (Z)
  rw[<- hz]at ud
  obtain⟨ys,hr,B,hv⟩:=IP (blk n) (rd n).length (Z) (Z)
  rw[gx _ rfl,gx _ rfl,zt ud]
  simp only[Hn]
  rw[xg rfl,xg rfl,zt hr,gx _ B.symm,xy]
  simp only[Nat.zero_add,qG]
  rw[hv,hz,List.take_left,<- z1u]
  unfold pr
  rw[if_neg hn]
def XW(neg:Bool)(n d:Nat):Rat:=if n=0\/d=0 then(false,[],[1],())else(neg,vU (n / zJ n d),vU (d / zJ n d),())
def zns(k:Nat)(a:Rat):Prop:=qx a.2.1/\qx a.2.2.1/\a.2.1.length<=k/\a.2.2.1.length<=k
theorem RE:vU 1=[1]:=by rw[WE (Z),show 1 / 4294967296=0 from rfl,gY]; rfl
theorem eE{m n:Nat}(h:m<=n):(vU m).length<=(vU n).length:=uL.2 (zF h (uL.1 (zP _)))
theorem zaC(neg:Bool)(n d k:Nat)(hk:1<=k)(hn:(vU n).length<=k)(V:(vU d).length<=k):zns k (XW neg n d):=by
 unfold XW
 split
 ·exact⟨vJ,z4y,qw,wa⟩
 ·exact⟨wK _,wK _,zN (eE (qM _ _)) hn,zN (eE (qM _ _)) V⟩
theorem N9(neg:Bool)(n d:List Int)(hn:qx n)(V:qx d)(ln:n.length<=100000000)(ld:d.length<=100000000):(sE neg n d).run=some (XW neg (nv n) (nv d)):=by
 have qn:=vO hn
 have qd:=vO V
 unfold sE
 rw[zt (Z9 n hn (Z)),zt (Z9 d V (Z))]
 generalize nv n=N at *
 generalize nv d=D at *
 unfold XW
 by_cases h:N=0\/D=0
 ·rw[if_pos h]
  have e:(((vU N).length:Int)==0||((vU D).length:Int)==0)=true:=by
   rcases h with rfl | rfl<;>simp[gY]
  have h1:(iZ 1).run=some (vU 1):=VS 1 (Z)
  rw[vK e,zt h1,xy,RE]
 ·rw[if_neg h]
  have hN:N≠0:=λz=>h (.inl z)
  have hD:D≠0:=λz=>h (.inr z)
  have n1:(vU N).length≠0:=λh=>hN (dV.1 (zG h))
  have n2:(vU D).length≠0:=λh=>hD (dV.1 (zG h))
  have e:(((vU N).length:Int)==0||((vU D).length:Int)==0)=false:=by rw[Bool.or_eq_false_iff]; exact⟨wa,wa⟩
  have hg:=KN (vU N) (vU D) (wK N) (wK D) (Z) (Z)
  rw[jA,jA]at hg
  have hgp:zJ N D≠0:=λz=>hN (Nat.gcd_eq_zero_iff.1 z).1
  have hgl:(vU (zJ N D)).length<=100000000:=zN (eE (xI D (zO hN))) (Z)
  have h1:=iX (vU N) (vU (zJ N D)) (wK N) (wK _) (Z) hgl
  have X:=iX (vU D) (vU (zJ N D)) (wK D) (wK _) (Z) hgl
  rw[jA,jA,if_neg hgp]at h1 X
  rw[ji e,zt hg,zt h1]
  rw[zt X,xy]
theorem z1K(n d:Nat)(h:zJ n d≠0):zJ (n / zJ n d) (d / zJ n d)=1:=by
 have:=Nat.gcd_mul_left (zJ n d) (n / zJ n d) (d / zJ n d)
 rw[Nat.mul_div_cancel' (Nat.gcd_dvd_left n d),Nat.mul_div_cancel' (Nat.gcd_dvd_right n d)]at this
 have X:zJ n d*zJ (n / zJ n d) (d / zJ n d)=zJ n d*1:=Z
 exact xC (zO h) X
theorem z0i(neg:Bool)(n d:Nat):XW (XW neg n d).1 (nv (XW neg n d).2.1) (nv (XW neg n d).2.2.1)=XW neg n d:=by
 by_cases h:n=0\/d=0
 ·have e:XW neg n d=(false,[],[1],()):=by unfold XW; rw[if_pos h]
  rw[e]; rfl
 ·have e:XW neg n d=(neg,vU (n / zJ n d),vU (d / zJ n d),()):=by unfold XW; rw[if_neg h]
  rw[e]
  have hn:n≠0:=λz=>h (.inl z)
  have V:d≠0:=λz=>h (.inr z)
  have hg:zJ n d≠0:=λz=>hn (Nat.gcd_eq_zero_iff.1 z).1
  have h1:n / zJ n d≠0:=Nat.div_ne_zero_iff.2 ⟨hg,xI d (zO hn)⟩
  have X:d / zJ n d≠0:=Nat.div_ne_zero_iff.2 ⟨hg,Nat.gcd_le_right n (zO V)⟩
  simp only[jA]
  unfold XW
  rw[if_neg (wa),z1K n d hg,Nat.div_one,Nat.div_one]
def norm(a:Rat):Rat:=XW a.1 (nv a.2.1) (nv a.2.2.1)
theorem zfb(n k:Nat)(h:(vU n).length<=k):(pr n).length<=18*k+1:=by
 unfold pr
 split
 ·simp
 ·obtain⟨z,hz⟩:=z1b n
  have h1:=D2 n k (uL.1 h)
  have X:=congrArg List.length hz
  rw[List.length_append]at X
  rw[z1u]
  simp only[jd,List.length_map,List.length_reverse]
  omega
end Go.AM.Lf
namespace Go.AM
namespace T
variable {α β σ ρ:Type}
theorem fK{t:T α}{Q:α->Prop}:t.wp Q↔∃ a,t.run=some a/\Q a:=⟨λh=>by obtain⟨a,h1,X⟩:=Le h; exact⟨a,yN.2 h1,X⟩,λ⟨a,h1,X⟩=>Y9 (yN.1 h1) X⟩
theorem gI{t:T α}{a:α}{Q:α->Prop}(h:t.run=some a)(k:Q a):t.wp Q:=fK.2 ⟨a,h,k⟩
theorem zd{a:α}{Q:α->Prop}(h:Q a):(ret a).wp Q:=h
theorem ze{b:Bool}{t e:T α}{Q:α->Prop}(h1:b=true->t.wp Q)(X:b=false->e.wp Q):(ite b t e).wp Q:=⟨h1,X⟩
theorem vD{b:Bool}{t e:T α}{Q:α->Prop}(h:b=true)(k:t.wp Q):(ite b t e).wp Q:=by subst h; exact⟨λ_=>k,nofun⟩
theorem wz{b:Bool}{t e:T α}{Q:α->Prop}(h:b=false)(k:e.wp Q):(ite b t e).wp Q:=by subst h; exact⟨nofun,λ_=>k⟩
theorem zi{p:Prop}{t:T α}{Q:α->Prop}(h:p)(k:t.wp Q):(zl p t).wp Q:=⟨h,k⟩
theorem qo{A:Type}{i:Int}{l:List A}{t:T α}{Q:α->Prop}(h:0<=i/\i<(l.length:Int))(k:t.wp Q):(oI i l t).wp Q:=⟨h,k⟩
theorem z8{A:Type}{l:List A}{t:T α}{Q:α->Prop}(k:t.wp Q):(W l t).wp Q:=⟨rfl,k⟩
theorem zc{A:Type}{l:List A}{t:T α}{Q:α->Prop}(k:t.wp Q):(oC l t).wp Q:=⟨⟨rfl,rfl,rfl⟩,k⟩
theorem uz{a b:Nat}{t:T α}{Q:α->Prop}(h:a=b)(k:t.wp Q):(oM a b t).wp Q:=⟨⟨h,rfl,h⟩,h,k⟩
theorem vS{A:Type}{l:List A}{k:Nat}{t:T α}{Q:α->Prop}(h:(l.length+1)*k<=140737488355328)(w:t.wp Q):(oA l k t).wp Q:=⟨⟨rfl,rfl,rfl,h⟩,w⟩
theorem wJ{a b:zn}{t:T α}{Q:α->Prop}(h:a.length+b.length<=4611686018427387904)(k:t.wp Q):(oK a b t).wp Q:=⟨h,k⟩
theorem xc{t:T α}{f:α->T β}{Q:β->Prop}(h:t.wp λa=>(f a).wp Q):(t.bind f).wp Q:=by
 obtain⟨a,h1,X⟩:=fK.1 h
 obtain⟨b,X,h3⟩:=fK.1 X
 exact gI ((zt h1 f).trans X) h3
theorem xp{t:T α}{P Q:α->Prop}(h:t.wp P)(k:∀ a,P a->Q a):t.wp Q:=by
 obtain⟨a,h1,X⟩:=fK.1 h
 exact gI h1 (k a X)
theorem vY{r:σ->T (σ⊕ρ)}{Q:ρ->Prop}(zC:σ->Prop)(μ:σ->Nat){s:σ}(hs:zC s)
  (h:∀ s,zC s->(r s).wp λz=>match z with | .inl s'=>zC s'/\μ s'<μ s | .inr y=>Q y):(loop r s).wp Q:=by
 generalize hm:μ s=m
 induction m using zR generalizing s with
 | _ m ih =>
  obtain⟨z,h1,X⟩:=fK.1 (h s hs)
  cases z with
  | inl s' =>
   obtain⟨a,h3,h4⟩:=fK.1 (ih (μ s') (by have:=X.2; omega) X.1 rfl)
   exact gI ((WA h1).trans h3) h4
  | inr y=>exact gI (rf h1) X
theorem vX{f:α->T σ}{g:β->T σ}{z:α⊕β}{Q:σ->Prop}(h1:∀ a,z=.inl a->(f a).wp Q)(X:∀ b,z=.inr b->(g b).wp Q):(xQ f g z).wp Q:=by
 cases z with
 | inl a=>exact h1 a rfl
 | inr b=>exact X b rfl
def le(t t':T α):Prop:=∀ v,t.leads v->t'.leads v
theorem le_rfl{t:T α}:le t t:=λ_ h=>h
theorem z8o{t t':T α}{f f':α->T β}(h:le t t')(k:∀ a,le (f a) (f' a)):le (t.bind f) (t'.bind f'):=λv hv=>by
 obtain⟨a,h1,X⟩:=zh.1 hv
 exact zh.2 ⟨a,h a h1,k a v X⟩
theorem ze3{c:Bool}{t t' e e':T α}(h:le t t')(k:le e e'):le (ite c t e) (ite c t' e'):=λv hv=>hv.imp (λx=>⟨x.1,h v x.2⟩) λx=>⟨x.1,k v x.2⟩
theorem ze4{p:Prop}{t t':T α}(h:le t t'):le (zl p t) (zl p t'):=λv hv=>⟨hv.1,h v hv.2⟩
theorem z8q{r r':σ->T (σ⊕ρ)}{s:σ}(h:∀ s,le (r s) (r' s)):le (loop r s) (loop r' s):=λv hv=>by
 obtain⟨n,hn⟩:=(fI _).1 hv
 refine(fI _).2 ⟨n,?_⟩
 clear hv
 induction hn with
 | done k=>exact .done (h _ _ k)
 | step k _ ih=>exact .step (h _ _ k) ih
theorem z8p{f f':α->T σ}{g g':β->T σ}{z:α⊕β}(h:∀ a,le (f a) (f' a))(k:∀ b,le (g b) (g' b)):le (xQ f g z) (xQ f' g' z):=by
 cases z with
 | inl a=>exact h a
 | inr b=>exact k b
theorem ze2{b b':(σ->T ρ)->σ->T ρ}(h:∀ F F',(∀ y,le (F y) (F' y))->∀ x,le (b F x) (b' F' x))(x:σ):le (fix b x) (fix b' x):=λv hv=>by
 have key:∀ n x,le (V5 b n x) (V5 b' n x):=by
  intro n
  induction n with
  | zero=>exact λ_=>le_rfl
  | succ n ih=>exact h _ _ ih
 obtain⟨n,hn⟩:=(mI b).1 hv
 exact(mI b').2 ⟨n,λm hm=>key m x v (hn m hm)⟩
theorem sZ{b:(σ->T ρ)->σ->T ρ}(zC:σ->Prop)(μ:σ->Nat)(Q:σ->ρ->Prop)(hm:∀ g g',(∀ y,le (g y) (g' y))->∀ x,le (b g x) (b g' x))
  (h:∀ x,zC x->∀ g:σ->T ρ,(∀ y,zC y->μ y<μ x->(g y).wp (Q y))->(b g x).wp (Q x)) {x:σ} (U:zC x):(fix b x).wp (Q x):=by
 have up:∀ n x,le (V5 b n x) (V5 b (n+1) x):=by
  intro n
  induction n with
  | zero=>exact λ_ _ h=>h.elim
  | succ n ih=>exact hm _ _ ih
 have ups:∀ n m,n<=m->∀ x,le (V5 b n x) (V5 b m x):=by
  intro n m hnm
  induction hnm with
  | refl=>exact λ_=>le_rfl
  | step _ ih=>exact λx v hv=>up _ x v (ih x v hv)
 have key:∀ n x,zC x->μ x<n->(V5 b n x).wp (Q x):=by
  intro n
  induction n with
  | zero=>intro x _ h; omega
  | succ n ih=>exact λx U hn=>h x U _ λy hy wO=>ih y hy (Z)
 obtain⟨a,h1,X⟩:=Le (key _ x U (Nat.lt_succ_self _))
 exact Y9 ((mI b).2 ⟨_,λm hm=>ups _ m hm x a h1⟩) X
theorem Ue{t:T α}{Q:α->Prop}{a:α}(h:t.wp Q)(k:t.run=some a):Q a:=by
 obtain⟨b,h1,X⟩:=fK.1 h
 cases h1.symm.trans k
 exact X
class Sp (t:T α) (pre:outParam Prop) (post:outParam (α->Prop)):Prop where sp:pre->t.wp post
theorem za{t:T α}{f:α->T β}{pre:Prop}{post:α->Prop}{Q:β->Prop}[s:Sp t pre post](h:pre)(k:∀ a,post a->(f a).wp Q):(t.bind f).wp Q :=
 xc (xp (s.sp h) k)
theorem vE{t:T α}{pre:Prop}{post:α->Prop}{Q:α->Prop}[s:Sp t pre post](h:pre)(k:∀ a,post a->Q a):t.wp Q:=xp (s.sp h) k
end T
open PL Lf
theorem jc(x:Int):q9 x=(x+9223372036854775808) % 18446744073709551616-9223372036854775808:=IntKind.wrap_i64 x
theorem fY{a:List Int}(h:qx a)(i:Nat)(x:Int):qx (a.set i (kT x)):=C3 h i (by rw[ZK]; omega) (by rw[ZK]; omega)
theorem yg{α:Type}(l:List α):xO 0 (List.take (0+l.length) l)=l:=qw
theorem Zh{k:IntKind}:zb (.int k)=0:=rfl
namespace T
theorem go{p:Prop} (h:p:=by
 intros
 repeat' (with_reducible first
  | refine T.zd ?_
  | refine T.ze (λ_ => ?_) (λ_ => ?_)
  | refine T.z8 ?_
  | refine T.zc ?_
  | refine T.uz ?_ ?_
  | refine T.qo ?_ ?_
  | refine T.vS ?_ ?_
  | refine T.wJ ?_ ?_
  | refine T.zi ?_ ?_
  | refine T.vX (λ_ _ => ?_) (λ_ _ => ?_)
  | refine T.za ?_ (λ_ _ => ?_)
  | refine T.vE ?_ (λ_ _ => ?_)
  | refine T.xc ?_
  | dsimp only)
 all_goals grind [xe,j6,dS,jv,Xo,jc,fY,vT,vJ,bp,yg,fX,Zh,List.length_set,List.take_length]):p:=h
theorem mono{p:Prop} (h:p:=by
 intros
 repeat' (with_reducible first
  | exact le_rfl
  | apply_assumption
  | refine z8o ?_ (λ_ => ?_)
  | refine ze3 ?_ ?_
  | refine ze4 ?_
  | refine z8q (λ_ => ?_)
  | refine z8p (λ_ => ?_) (λ_ => ?_)
  | refine ze2 (λ_ _ _ _ => ?_) _
  | dsimp only[oI,W,oC,oM,oA,oK])):p:=h
theorem lp{σ ρ:Type}{r:σ->T (σ⊕ρ)}{Q:ρ->Prop}(zC:σ->Prop)(μ:σ->Nat){s:σ}(hs:zC s:=by grind)
  (h:∀ s,zC s->(r s).wp λz=>match z with | .inl s'=>zC s'/\μ s'<μ s | .inr y=>Q y:=by
 intros
 repeat' (with_reducible first
  | refine T.zd ?_
  | refine T.ze (λ_ => ?_) (λ_ => ?_)
  | refine T.z8 ?_
  | refine T.zc ?_
  | refine T.uz ?_ ?_
  | refine T.qo ?_ ?_
  | refine T.vS ?_ ?_
  | refine T.wJ ?_ ?_
  | refine T.zi ?_ ?_
  | refine T.vX (λ_ _ => ?_) (λ_ _ => ?_)
  | refine T.za ?_ (λ_ _ => ?_)
  | refine T.vE ?_ (λ_ _ => ?_)
  | refine T.xc ?_
  | dsimp only)
 all_goals grind [xe,j6,dS,jv,Xo,jc,fY,vT,vJ,bp,yg,fX,Zh,List.length_set,List.take_length]):(loop r s).wp Q:=T.vY zC μ hs h
end T
open T
instance (a:List Int):Sp (ue a) (qx a/\a.length<=4000000000) (λr=>qx r/\r.length<=a.length):=⟨λh=>gI (ca a h.1 h.2) ⟨wK _,vO h.1⟩⟩
end Go.AM
namespace Go.AM
open T PL Lf
def rg(a:Lf.Rat):Prop:=qx a.2.1/\qx a.2.2.1
def rl(a:Lf.Rat):Nat:=max a.2.1.length a.2.2.1.length
theorem YS(x:Int):xo x=x % 18446744073709551616:=Lg x
def nm(a:Lf.Rat):Prop:=norm a=a
instance (d:List Int) (a:Int) (v:Int) (x3:List Int) (x4 x5:Int) (x6:List Int) (s:Int×Int×List Int):Sp (VP d a v x3 x4 x5 x6 (x6.length:Int) s) (s.2.1=0/\qx s.2.2/\0<=a/\a+x6.length<=s.2.2.length/\s.2.2.length<=4000000000) (λr=>qx r.2/\r.2.length=s.2.2.length):=⟨λh=>by
 unfold VP VR
 exact lp (λ(_,i,c)=>0<=i/\i<=x6.length/\qx c/\c.length=s.2.2.length) (λ(_,i,_)=>(x6.length-i).toNat)⟩
instance (d x:List Int) (s:Int×List Int):Sp (VO d x (x.length:Int) s) (s.1=0/\qx s.2/\s.2.length=d.length+x.length/\s.2.length<=2000000000) (λr=>qx r/\r.length=s.2.length):=⟨λh=>by
 unfold VO VQ
 exact lp (λ(i,c)=>0<=i/\i<=x.length/\qx c/\c.length=s.2.length) (λ(i,_)=>(x.length-i).toNat)⟩
instance (a b:List Int):Sp (iY a b) (qx a/\qx b/\a.length+b.length<=1000000000) (λr=>qx r/\r.length<=a.length+b.length):=⟨λh=>by unfold iY; exact go⟩
instance (a b x:List Int) (s:Int×Int×List Int):Sp (VM a b x (x.length:Int) s) (s.2.1=0/\qx s.2.2/\s.2.2.length=x.length+1/\s.2.2.length<=2000000000) (λr=>qx r.2/\r.2.length=s.2.2.length):=⟨λh=>by
 unfold VM VN
 exact lp (λ(_,i,c)=>0<=i/\i<=x.length/\qx c/\c.length=s.2.2.length) (λ(_,i,_)=>(x.length-i).toNat)⟩
instance (a b:List Int):Sp (J3 a b) (qx a/\qx b/\a.length+b.length<=1000000000) (λr=>qx r/\r.length<=max a.length b.length+1):=⟨λh=>by unfold J3; exact go⟩
instance (a b:List Int):Sp (tG a b) (qx a/\qx b/\a.length+b.length<=1000000000) (λr=>r=Fh (nv a) (nv b)):=⟨λh=>gI (KM a b h.1 h.2.1 (Z) (Z)) rfl⟩
instance (b x:List Int) (s:Int×Int×List Int):Sp (VT b x (x.length:Int) s) (s.2.1=0/\qx s.2.2/\s.2.2.length=x.length/\s.2.2.length<=2000000000) (λr=>qx r/\r.length=s.2.2.length):=⟨λh=>by
 unfold VT VU yc
 exact lp (λ(_,i,c)=>0<=i/\i<=x.length/\qx c/\c.length=s.2.2.length) (λ(_,i,_)=>(x.length-i).toNat)⟩
instance (a b:List Int):Sp (J6 a b) (qx a/\qx b/\a.length+b.length<=1000000000) (λr=>qx r.1/\r.1.length<=a.length):=⟨λh=>by unfold J6; exact go⟩
instance (a:Int):Sp (iZ a) (0<=a/\a<18446744073709551616) (λr=>qx r/\r.length<=2/\r=vU a.toNat):=⟨λh=>by
 obtain⟨n,rfl⟩:=qO h.1
 exact gI (VS n (Z)) ⟨wK _,uL.2 (Z),rfl⟩⟩
instance (a b:List Int):Sp (WB a b) (qx a/\qx b/\a.length+b.length<=100000000) (λr=>r=vU (zJ (nv a) (nv b))/\qx r/\r.length<=a.length+b.length):=⟨λh=>gI (KN a b h.1 h.2.1 (Z) (Z)) ⟨rfl,wK _,by
 have h1:=vO h.1
 have X:=vO h.2.1
 by_cases e:nv a=0
 ·rw[e,Nat.gcd_zero_left]; omega
 ·have:=eE (xI (nv b) (zO e)); omega⟩⟩
def cl(s:zn):Prop:=∀ b∈s,b.toNat≠10
instance (s:zn):Decidable (cl s):=by unfold cl; infer_instance
theorem ym{a b:zn}:cl (cat a b)↔cl a/\cl b:=List.forall_mem_append
theorem G8{a:zn}(h:cl a)(i j:Int):cl (iv i j a):=λb J=>h b (xN (xM J))
theorem JO{s:zn}(h:cl s):∀ n,cl (Bp s n)
 | 0=>nofun
 | n+1=>ym.2 ⟨h,JO h n⟩
theorem zd3(n:Nat):cl (dgz n):=by
 induction n using zR with
 | _ n ih =>
  intro b J
  rw[dgz]at J
  split at J
  ·cases J
  ·rcases zS.1 J with h | h
   ·exact ih _ (Z) b h
   ·rw[zV.1 h]; unfold dgt; rw[UInt8.toNat_ofNat']; omega
theorem znp(n:Nat):cl (pr n):=by unfold pr; split; exact(qh); exact zd3 n
instance (a:List Int):Sp (mM a) (qx a/\a.length<=1000000) (λr=>r.length<=18*a.length+1/\cl r):=⟨λh=>gI (Bf a h.1 h.2) ⟨zfb _ _ (vO h.1),znp _⟩⟩
instance (a b:List Int):Sp (dT a b) (qx a/\qx b/\a.length+b.length<=100000000) (λr=>qx r.1/\qx r.2.1/\r.1.length<=a.length/\r.2.1.length<=a.length):=⟨λh=>gI (iX a b h.1 h.2.1 (Z) (Z)) (by
 have h1:=vO h.1
 split
 ·exact⟨vJ,vJ,xE _,xE _⟩
 ·exact⟨wK _,wK _,zN (eE (qM _ _)) h1,zN (eE (Nat.mod_le _ _)) h1⟩)⟩
instance (g:Bool) (n d:List Int):Sp (sE g n d) (qx n/\qx d/\n.length+d.length<=100000000) (λr=>rg r/\rl r<=max 1 (max n.length d.length)/\nm r/\r=XW g (nv n) (nv d)):=⟨λh=>gI (N9 g n d h.1 h.2.1 (Z) (Z)) (by
 have:=zaC g (nv n) (nv d) (max 1 (max n.length d.length)) (Z) (by have:=vO h.1; omega) (by have:=vO h.2.1; omega)
 exact⟨⟨this.1,this.2.1⟩,by unfold rl; have:=this.2.2; omega,z0i _ _ _,rfl⟩)⟩
instance (a:Lf.Rat):Sp (vH a) (rg a/\rl a<=50000000) (λr=>rg r/\rl r<=max 1 (rl a)/\nm r/\r=norm a):=⟨λh=>by unfold rg rl at h; unfold vH norm; refine za (wa) λr h=>h⟩
theorem gor{p:Prop} (h:p:=by
 intros
 repeat' (with_reducible first
  | refine T.zd ?_
  | refine T.ze (λ_ => ?_) (λ_ => ?_)
  | refine T.z8 ?_
  | refine T.zc ?_
  | refine T.uz ?_ ?_
  | refine T.qo ?_ ?_
  | refine T.vS ?_ ?_
  | refine T.wJ ?_ ?_
  | refine T.zi ?_ ?_
  | refine T.vX (λ_ _ => ?_) (λ_ _ => ?_)
  | refine T.za ?_ (λ_ _ => ?_)
  | refine T.vE ?_ (λ_ _ => ?_)
  | refine T.xc ?_
  | dsimp only)
 all_goals grind [xe,j6,dS,jv,Xo,jc,fY,vT,vJ,bp,yg,fX,Zh,List.length_set,List.take_length,rg,rl,YS]):p:=h
instance (a:Lf.Rat):Sp (cT a) (rg a/\rl a<=50000000) (λr=>r=false->rl (norm a)<=16):=⟨λh=>by unfold cT; exact gor⟩
instance (a b:Lf.Rat):Sp (pP a b) (rg a/\rg b/\rl a+rl b<=20000000) (λr=>rg r/\rl r<=rl a+rl b+2/\nm r):=⟨λh=>by unfold pP; exact gor⟩
instance (a b:Lf.Rat):Sp (pO a b) (rg a/\rg b/\rl a+rl b<=20000000) (λr=>rg r/\rl r<=rl a+rl b+3/\nm r):=⟨λh=>by unfold pO; exact gor⟩
instance (a:Lf.Rat):Sp (Qt a) (rg a/\rl a<=50000000) (λr=>rg r/\rl r<=max 1 (rl a)):=⟨λh=>by unfold Qt U2; exact gor⟩
instance (a b:Lf.Rat):Sp (Jm a b) (rg a/\rg b/\rl a+rl b<=10000000) (λr=>rg r/\rl r<=rl a+rl b+4/\nm r):=⟨λh=>by unfold Jm; exact gor⟩
instance (a:Lf.Rat):Sp (ly a) (rg a/\rl a<=50000000) (λ_=>True):=⟨λh=>by unfold ly; exact gor⟩
instance (a b:Lf.Rat):Sp (YK a b) (rg a/\rg b/\rl a+rl b<=10000000) (λ_=>True):=⟨λh=>by unfold YK; exact gor⟩
instance (a:Int):Sp (gw a) (-9223372036854775808<=a/\a<=9223372036854775807) (λr=>rg r/\rl r<=2):=⟨λh=>by unfold gw; exact gor⟩
instance (a b:Lf.Rat):Sp (tL a b) (rg a/\rg b/\rl a+rl b<=10000000) (λr=>rg r.1/\rl r.1<=rl a+rl b+4/\(r.2=true->nm r.1)):=⟨λh=>by unfold tL; exact gor⟩
theorem NF(x:Int):wu8 x=x % 256:=IntKind.wrap_u8 x
theorem sN(a:zn)(h:xx a []=false):1<=a.length:=by
 cases a with
 | nil=>exact absurd h (qh)
 | cons=>simp
theorem dQ(a b:zn):(cat a b).length=a.length+b.length:=List.length_append
theorem TJ(l h:Int)(a:zn):(iv l h a).length<=a.length:=by unfold iv; simp; omega
theorem z3W(a p:zn):(Eo a p).length<=a.length:=by unfold Eo; split<;>simp
theorem zeW(n:Nat):∀ s:zn,(Bp s n).length=s.length*n:=by
 induction n with
 | zero=>simp[Bp]
 | succ n ih=>intro s; rw[Bp,List.length_append,ih,Nat.mul_succ]; omega
theorem OG(l h:Int)(a:zn)(h0:0<=l)(h1:l<=h)(X:h<=a.length):((iv l h a).length:Int)=h-l:=by unfold iv; simp; omega
theorem V4(x:Lf.Rat):(x.1,x.2.1,x.2.2.1,())=x:=rfl
theorem VE(e:Expr):Expr.mk e.kind ((Expr.num e).1,(Expr.num e).2.1,(Expr.num e).2.2.1,()) e.name e.kids=e:=by cases e; rfl
theorem JM(s:zn)(i:Int):0<=vx s i/\vx s i<256:=by unfold vx; have:=(s.getD i.toNat 0).toNat_lt; omega
theorem lW{p:Prop} (h:p:=by
 intros
 repeat' (with_reducible first
  | refine T.zd ?_
  | refine T.ze (λ_ => ?_) (λ_ => ?_)
  | refine T.z8 ?_
  | refine T.zc ?_
  | refine T.uz ?_ ?_
  | refine T.qo ?_ ?_
  | refine T.vS ?_ ?_
  | refine T.wJ ?_ ?_
  | refine T.zi ?_ ?_
  | refine T.vX (λ_ _ => ?_) (λ_ _ => ?_)
  | refine T.za ?_ (λ_ _ => ?_)
  | refine T.vE ?_ (λ_ _ => ?_)
  | refine T.xc ?_
  | dsimp only)
 all_goals grind [xe,j6,dS,jv,Xo,jc,fY,vT,vJ,bp,yg,fX,Zh,List.length_set,List.take_length,rg,rl,YS,NF,dQ,TJ,z3W,zeW,OG,JM,xx,iA,sN]):p:=h
theorem lps{σ ρ:Type}{r:σ->T (σ⊕ρ)}{Q:ρ->Prop}(zC:σ->Prop)(μ:σ->Nat){s:σ}(hs:zC s:=by grind [xe,j6,dS,jv,Xo,jc,fY,vT,vJ,bp,yg,fX,Zh,List.length_set,List.take_length,rg,rl,YS,NF,dQ,TJ,z3W,zeW,OG,JM,xx,iA,sN])
  (h:∀ s,zC s->(r s).wp λz=>match z with | .inl s'=>zC s'/\μ s'<μ s | .inr y=>Q y:=by
 intros
 repeat' (with_reducible first
  | refine T.zd ?_
  | refine T.ze (λ_ => ?_) (λ_ => ?_)
  | refine T.z8 ?_
  | refine T.zc ?_
  | refine T.uz ?_ ?_
  | refine T.qo ?_ ?_
  | refine T.vS ?_ ?_
  | refine T.wJ ?_ ?_
  | refine T.zi ?_ ?_
  | refine T.vX (λ_ _ => ?_) (λ_ _ => ?_)
  | refine T.za ?_ (λ_ _ => ?_)
  | refine T.vE ?_ (λ_ _ => ?_)
  | refine T.xc ?_
  | dsimp only)
 all_goals grind [xe,j6,dS,jv,Xo,jc,fY,vT,vJ,bp,yg,fX,Zh,List.length_set,List.take_length,rg,rl,YS,NF,dQ,TJ,z3W,zeW,OG,JM,xx,iA,sN]):(loop r s).wp Q:=T.vY zC μ hs h
instance (c:Int) (a:zn):Sp (bw c a) (a.length<=1000000000) (λr=>r.length<=a.length):=⟨λh=>by
 unfold bw bz
 exact lps (λs=>s.length<=a.length) (λs=>s.length)⟩
instance (c:Int) (a:zn):Sp (bY c a) (a.length<=1000000000) (λr=>r.length<=a.length):=⟨λh=>by
 unfold bY bZ
 exact lps (λs=>s.length<=a.length) (λs=>s.length)⟩
instance (c:den (nC .bool 256)) (a:zn):Sp (jQ c a) (a.length<=1000000000) (λr=>r.length<=a.length):=⟨λh=>by
 unfold jQ uH vk
 exact lps (λs=>s.length<=a.length) (λs=>s.length)⟩
instance (c:den (nC .bool 256)) (a:zn):Sp (kE c a) (a.length<=1000000000) (λr=>r.length<=a.length):=⟨λh=>by
 unfold kE j3 vk
 exact lps (λs=>s.length<=a.length) (λs=>s.length)⟩
def z4v(a:zn):Bool:=decide (a.length<=1000)&&a.all λx=>decide (x.toNat<128)
theorem z4w:z4v [48,49,50,51,52,53,54,55,56,57]=true:=qh
instance (b a:zn):Sp (cH b a) (b.length<=1000000000/\z4v a=true) (λr=>r.length<=b.length):=⟨λh=>by
 unfold cH strings_trimRightByte strings_trimLeftByte strings_makeASCIISet jH jU
 simp only[z4v,Bool.and_eq_true,decide_eq_true_eq,List.all_eq_true]at h
 exact lW⟩
instance (a:zn) (s:List Int×Int):Sp (Qj a (a.length:Int) s) (a.length<=100000/\s=([],0)) (λr=>qx r/\r.length<=2*a.length+1):=⟨λh=>by
 unfold Qj Qk
 exact lps (λ(l,i)=>qx l/\0<=i/\i<=a.length/\(l.length:Int)<=2*i+1) (λ(_,i)=>(a.length-i).toNat)⟩
instance (a:zn):Sp (mL a) (a.length<=1000000000) (λr=>qx r.1/\r.1.length<=801):=⟨λh=>by have:=z4w; unfold mL; exact lW⟩
instance (n:Int) (s:List Int×Int):Sp (VA n s) (n<=100000/\qx s.1/\s.1.length<=2/\s.2=0) (λr=>qx r/\r.length<=2+2*n.toNat):=⟨λh=>by
 unfold VA VB
 exact lps (λ(l,i)=>qx l/\0<=i/\(i<=n\/i=0)/\(l.length:Int)<=2+2*i) (λ(_,i)=>(n-i).toNat)⟩
instance (n:Int):Sp (UA n) (n<=100000) (λr=>qx r/\r.length<=2+2*n.toNat):=⟨λh=>by unfold UA; exact lW⟩
instance (a:zn) (n:Int):Sp (tq a n) (0<=n/\n<=100000/\a.length<=1000000000) (λr=>r.length<=a.length+n.toNat+2/\(cl a->cl r)):=⟨λh=>by have c0 := @ym; have c1 := @G8; have c2 := @JO; have c3:cl [45]/\cl [46]/\cl [47]/\cl [48]/\cl []:=(qh); unfold tq strings_Repeat; exact lW⟩
instance (a:Lf.Rat):Sp (Xp a) True (λr=>r.length<=1/\cl r):=⟨λ_=>by have c0 := @ym; have c1 := @G8; have c2 := @JO; have c3:cl [45]/\cl [46]/\cl [47]/\cl [48]/\cl []:=(qh); unfold Xp; exact lW⟩
instance (a:Lf.Rat):Sp (gJ a) (rg a/\rl a<=500000) (λr=>r.length<=40*rl a+50/\cl r):=⟨λh=>by have c0 := @ym; have c1 := @G8; have c2 := @JO; have c3:cl [45]/\cl [46]/\cl [47]/\cl [48]/\cl []:=(qh); unfold gJ; exact lW⟩
instance (a b:zn):Sp (strings_Cut a b) (a.length<=1000000000) (λr=>r.1.length+r.2.1.length<=a.length):=⟨λh=>by
 unfold strings_Cut Uz
 exact T.zi (Z) (T.zd (by split<;>simp<;>omega))⟩
instance (a b:zn):Sp (strings_CutPrefix a b) True (λr=>r.1.length<=a.length):=⟨λh=>by unfold strings_CutPrefix; exact lW⟩
instance (a:zn):Sp (rb a) True (λr=>rg r.1/\rl r.1<=1700):=⟨λh=>by unfold rb; exact lW⟩
instance (s:Int×Lf.Rat):Sp (ZU s) (s.1=0/\rg s.2/\rl s.2<=5000) (λr=>match r with | .inl _=>True | .inr z=>z.1.length<=18*rl s.2+2280/\cl z.1):=⟨λh=>by
 have c0 := @ym; have c1 := @G8; have c2 := @JO; have c3:cl [45]/\cl [46]/\cl [47]/\cl [48]/\cl []:=qh
 unfold ZU ZV
 exact lps (λ(i,a)=>0<=i/\i<=61/\a=s.2) (λ(i,_)=>(61-i).toNat)⟩
instance (a:Lf.Rat):Sp (Zf a) (rg a/\rl a<=5000) (λr=>r.1.length<=18*rl a+2300/\cl r.1):=⟨λh=>by have c0 := @ym; have c1 := @G8; have c2 := @JO; have c3:cl [45]/\cl [46]/\cl [47]/\cl [48]/\cl []:=(qh); unfold Zf; exact lW⟩
theorem z74(a:Lf.Rat)(h:rg a)(h1:Ju a.2.1)(X:Ju a.2.2.1)(h3:a.2.2.1≠[])(h4:a.1=true->a.2.1≠[])(h5:zJ (nv a.2.1) (nv a.2.2.1)=1):nm a:=by
 unfold nm norm XW
 obtain⟨b,n,d,u⟩:=a
 by_cases hn:nv n=0
 ·have:n=[]:=by rcases Decidable.em (n=[])with e | e; exact e; exact absurd hn (MU h.1 h1 e)
  subst this
  simp at h5 h4 ⊢
  have e:vU (nv d)=d:=E0 h.2 X
  rw[h5,RE]at e
  simp[h4,<- e]
 ·rw[if_neg (by have:=MU h.2 X h3; simp[hn,this])]
  simp only[h5,Nat.div_one]
  rw[E0 h.1 h1,E0 h.2 X]
instance (a:List Int):Sp (Qi a) (a.length<=1000000000) (λr=>r=true->Ju a):=⟨λh=>by
 unfold Qi
 refine T.zi (λh1 => ?_) (T.zd λX x U => ?_)
 ·rw[qs (Z) (Z)]; grind [xe]
 ·obtain⟨l,rfl⟩:=List.getLast?_eq_some_iff.1 U
  rw[qs (Z) (Z),show zb (.int .u32)=(0:Int)from rfl,Iq]at X
  have:(l.length:Int)+1=0\/x≠0:=by simpa using X
  omega⟩
instance (a:Lf.Rat):Sp (Z3 a) (rg a/\rl a<=5000000) (λr=>r=true->nm a):=⟨λh=>by
 have:¬ Ju a.2.1\/¬ Ju a.2.2.1\/a.2.2.1.length=0\/(a.1=true/\a.2.1.length=0)\/zJ (nv a.2.1) (nv a.2.2.1)≠1\/nm a:=by
  have:=z74 a h.1
  simp only[xG]; grind
 have e:∀ g,Fh (nv (vU g)) (nv (vU (Int.toNat 1)))=0->g=1:=λg h=>by rw[jA,jA]at h; unfold Fh at h; grind
 unfold Z3
 exact lW⟩
def ixR{α:Type}(d0:α)(b:List α)(d:α->T Bool)(e:Int):Int->T (Int⊕(Unit⊕Int))
 | a=>.ite (decide (a<e)) (oI a b<|T.bind (d (nth b a d0)) λc=>.ite c (.ret (.inr (.inr a))) (.ret (.inl (q9 (a+1))))) (.ret (.inr (.inl ())))
theorem xj{α:Type}{l:List α}{i:Int}{d:α}(h0:0<=i)(h:i<l.length):nth l i d∈l:=by
 unfold nth
 rw[zQ,List.getElem?_eq_getElem (Z)]
 exact List.getElem_mem _
theorem J0{α:Type}{l:List α}{x d:α}(h:x∈l):∃ i:Int,0<=i/\i<l.length/\nth l i d=x:=by
 obtain⟨k,hk,rfl⟩:=List.getElem_of_mem h
 exact⟨k,Z,Z,by unfold nth; simp[hk]⟩
theorem zj4{α:Type}(d0:α)(l:List α)(c:α->T Bool)(B:l.length<=1000000000000)(hc:∀ x∈l,(c x).wp λ_=>True) :
  (T.loop (ixR d0 l c l.length) 0).wp λr=>match r with | .inl _=>∀ x∈l,(c x).run=some false | .inr i=>0<=i/\i<l.length/\(c (nth l i d0)).run=some true:=by
 refine T.vY (λi:Int=>0<=i/\i<=l.length/\∀ j:Int,0<=j->j<i->(c (nth l j d0)).run=some false) (λi:Int=>(l.length-i).toNat) (wa) λi ⟨h0,h1,X⟩ => ?_
 refine T.ze (λh => ?_) λh => ?_
 ·have h:=uC h
  refine T.qo ⟨h0,h⟩ (T.xc ?_)
  obtain⟨b,J,_⟩:=T.fK.1 (hc _ (xj (d:=d0) h0 h))
  refine T.gI J (T.ze (λe=>T.zd ⟨h0,h,e▸J⟩) λe=>T.zd ?_)
  rw[qs (Z) (Z)]
  refine⟨⟨Z,Z,λj hj hji => ?_⟩,Z⟩
  by_cases e':j=i
  ·subst e'; exact e▸J
  ·exact X j hj (Z)
 ·refine T.zd λx U => ?_
  obtain⟨j,hj,Oq,rfl⟩:=J0 (d:=d0) U
  have h:=ga h
  exact X j hj (Z)
def Ixp{α:Type}(l:List α)(c:α->T Bool)(d0:α)(r:Int):Prop:=(r = -1/\∀ x∈l,(c x).run=some false)\/(0<=r/\r<l.length/\(c (nth l r d0)).run=some true)
theorem zdY{α:Type}{d0:α}{l:List α}{c:α->T Bool}(h:l.length<=1000000000000/\∀ x∈l,(c x).wp λ_=>True) :
  (T.bind (T.loop (ixR d0 l c l.length) 0)<|xQ (λ_=>T.ret (-1:Int)) λb=>T.ret b).wp (Ixp l c d0) :=
 T.xc (T.xp (zj4 d0 l c h.1 h.2) λr hr=>by
  cases r with
  | inl _=>exact .inl ⟨rfl,hr⟩
  | inr i=>exact .inr hr)
def BE{α:Type}(l:List α)(P:α->Bool->Prop)(d0:α)(r:Int):Prop:=(r = -1/\∀ x∈l,P x false)\/(0<=r/\r<l.length/\P (nth l r d0) true)
def EB{α:Type}(l:List α)(P:α->Bool->Prop)(r:Bool):Prop:=(r=false/\∀ x∈l,P x false)\/(r=true/\∃ x∈l,P x true)
theorem ixq{α:Type}{d0:α}{l:List α}{c:α->T Bool}{p:α->Prop}{P:α->Bool->Prop}[s:∀ x,Sp (c x) (p x) (P x)](h:l.length<=1000000000000/\∀ x∈l,p x) :
  (T.bind (T.loop (ixR d0 l c l.length) 0)<|xQ (λ_=>T.ret (-1:Int)) λb=>T.ret b).wp (BE l P d0) :=
 T.xp (zdY ⟨h.1,λx U=>T.xp ((s x).sp (h.2 x U)) λ_ _=>trivial⟩) λ_ hr=>hr.imp (λ⟨e,k⟩=>⟨e,λx U=>T.Ue ((s x).sp (h.2 x U)) (k x U)⟩) λ⟨h1,X,k⟩=>⟨h1,X,T.Ue ((s _).sp (h.2 _ (xj h1 X))) k⟩
theorem cnq{α:Type}{d0:α}{l:List α}{P:α->Bool->Prop}{t:T Int}(k:t.wp (BE l P d0)):(T.bind t λa=>T.ret (decide ((0:Int)<=a))).wp (EB l P) :=
 T.xc (T.xp k λa ha=>ha.elim (λ⟨h,k⟩=>.inl ⟨decide_eq_false (Z),k⟩) λ⟨h1,X,k⟩=>.inr ⟨decide_eq_true h1,_,xj h1 X,k⟩)
instance (a:List Switch) (c:Switch->T Bool) (p:Switch->Prop) (P:Switch->Bool->Prop) [∀ x,Sp (c x) (p x) (P x)]:Sp (wb a c) (a.length<=1000000000000/\∀ x∈a,p x) (BE a P (zb ql)):=⟨ixq⟩
instance (a:List Switch) (c:Switch->T Bool) (p:Switch->Prop) (P:Switch->Bool->Prop) [∀ x,Sp (c x) (p x) (P x)]:Sp (vI a c) (a.length<=1000000000000/\∀ x∈a,p x) (EB a P):=⟨λh=>cnq (Sp.sp h)⟩
instance (a:List Param) (c:Param->T Bool) (p:Param->Prop) (P:Param->Bool->Prop) [∀ x,Sp (c x) (p x) (P x)]:Sp (vL a c) (a.length<=1000000000000/\∀ x∈a,p x) (BE a P (zb qe)):=⟨ixq⟩
instance (a:List Param) (c:Param->T Bool) (p:Param->Prop) (P:Param->Bool->Prop) [∀ x,Sp (c x) (p x) (P x)]:Sp (vV a c) (a.length<=1000000000000/\∀ x∈a,p x) (EB a P):=⟨λh=>cnq (Sp.sp h)⟩
instance (a:List ct) (c:ct->T Bool) (p:ct->Prop) (P:ct->Bool->Prop) [∀ x,Sp (c x) (p x) (P x)]:Sp (uZ a c) (a.length<=1000000000000/\∀ x∈a,p x) (BE a P (zb xk)):=⟨ixq⟩
instance (a:List ct) (c:ct->T Bool) (p:ct->Prop) (P:ct->Bool->Prop) [∀ x,Sp (c x) (p x) (P x)]:Sp (yu a c) (a.length<=1000000000000/\∀ x∈a,p x) (EB a P):=⟨λh=>cnq (Sp.sp h)⟩
instance (a:List cf) (c:cf->T Bool) (p:cf->Prop) (P:cf->Bool->Prop) [∀ x,Sp (c x) (p x) (P x)]:Sp (bu a c) (a.length<=1000000000000/\∀ x∈a,p x) (BE a P (zb xl)):=⟨ixq⟩
instance (a:List cf) (c:cf->T Bool) (p:cf->Prop) (P:cf->Bool->Prop) [∀ x,Sp (c x) (p x) (P x)]:Sp (yv a c) (a.length<=1000000000000/\∀ x∈a,p x) (EB a P):=⟨λh=>cnq (Sp.sp h)⟩
def okN(s:zn):Prop:=s≠[]/\∀ b∈s,48<=b.toNat/\b.toNat≠58
abbrev nL(s:zn):Prop:=s.length<=24/\okN s
abbrev wL(s:zn):Prop:=s.length<=24/\(s=[]\/okN s)
def inN(a:zn)(n:Int):Prop:=∀ j:Int,0<=j->j<n->48<=vx a j/\vx a j≠58
theorem zf6{a:zn}(h:inN a a.length)(h1:1<=a.length):okN a:=⟨by rintro rfl; simp at h1,λb J=>by
 obtain⟨j,hj,rfl⟩:=List.getElem_of_mem J
 have:=h j (Z) (Z)
 unfold vx at this
 simp[hj]at this
 omega⟩
theorem ziZ(a:zn):inN a 0:=λj h0 h1=>Z
theorem zj0{a:zn}{n:Int}(h:inN a n)(k:48<=vx a n/\vx a n≠58):inN a (n+1):=λj h0 h1=>by
 by_cases e:j=n
 ·subst e; exact k
 ·exact h j h0 (Z)
instance (a:Int):Sp (yG a) True (λr=>r=true->97<=a/\a<=122):=⟨λ_=>by unfold yG; exact lW⟩
instance (a:Int):Sp (yq a) True (λr=>r=true->48<=a/\a≠58):=⟨λ_=>by unfold yq jz; exact lW⟩
instance (a:zn) (s:Int):Sp (Q5 a (a.length:Int) s) (s=0/\a.length<=1000000000) (λr=>match r with | .inl _=>inN a a.length | .inr b=>b=false):=⟨λh=>by
 have i0:=ziZ a
 have i1 := @zj0 a
 unfold Q5 Q6
 exact lps (λ(i:Int)=>0<=i/\i<=a.length/\inN a i) (λ(i:Int)=>(a.length-i).toNat)⟩
instance (a:zn):Sp (uU a) (a.length<=1000000000) (λr=>r=true->nL a):=⟨λh=>by have i0 := @zf6 a; unfold uU; exact lW⟩
inductive EW(k:Nat):Expr->Prop
 | mk {kd:Int} {n:Lf.Rat} {s:zn} {l:List Expr}:rg n->rl n<=k->s.length<=k->l.length<=k->(∀ x∈l,EW k x)->EW k (.mk kd n s l)
inductive EO:Nat->Expr->Prop
 | num {n:Lf.Rat} {s:zn}:rg n->rl n<=16->EO 1 (.mk 1 n s [])
 | nam {n:Lf.Rat} {s:zn}:nL s->EO 1 (.mk 2 n s [])
 | neg {n:Lf.Rat} {s:zn} {i:Nat} {a:Expr}:EO i a->EO (i+1) (.mk 7 n s [a])
 | bin {k:Int} {n:Lf.Rat} {s:zn} {i j:Nat} {a b:Expr}:3<=k->k<=6->EO i a->EO j b->EO (i+j+1) (.mk k n s [a,b])
instance (a:Lf.Rat):Sp (Q7 a) (rg a/\rl a<=2000000) (λr=>r=true->rl a<=16):=⟨λh=>by have:nm a↔norm a=a:=Iff.rfl; unfold Q7; exact lW⟩
instance (a:Lf.Rat):Sp (nK a) (rg a/\rl a<=2000000) (λ_=>True):=⟨λh=>by unfold nK; exact lW⟩
def arity(k:Int):Nat:=if k=1\/k=2 then 0 else if k=7 then 1 else 2
instance (a:Int):Sp (Wu a) True (λr=>0<=r->r=arity a/\1<=a/\a<=7):=⟨λ_=>by unfold Wu arity; exact lW⟩
instance (e:Expr):Sp (nJ e) (EW 2000000 e) (λr=>r=true->e.kids.length=arity e.kind/\1<=e.kind/\e.kind<=7/\(e.kind=1->rl e.num<=16)/\(e.kind=2->nL e.name)):=⟨λh=>by
 cases h with
 | mk h1 X h3 h4 h5 =>
  unfold nJ
  simp only[Expr.kids,Expr.kind,Expr.num,Expr.name]
  exact lW⟩
inductive Va:Nat->List Expr->Prop
 | nil:Va 0 []
 | snoc {m n:Nat} {l:List Expr} {a:Expr}:Va m l->EO n a->Va (m+n) (l++[a])
theorem cV{α:Type}(l:List α)(i:Int)(d:α)(h0:0<=i)(h:i<l.length):l.take (i+1).toNat=l.take i.toNat++[nth l i d]:=by
 have:(i+1).toNat=i.toNat+1:=Z
 rw[this,qS (Z)]
 unfold nth
 simp[zQ,show i.toNat<l.length by omega]
theorem Va.inv{n:Nat}{l:List Expr}(h:Va n l):∀ (L:List Expr) (a:Expr),l=L++[a]->∃ i j,n=i+j/\Va i L/\EO j a:=by
 cases h with
 | nil=>intro L a e; simp at e
 | @snoc m n l a h1 X =>
  intro L b e
  obtain⟨h3,h4⟩:=List.append_inj' e rfl
  subst h3
  cases h4
  exact⟨m,n,rfl,h1,X⟩
theorem Va.n0{n:Nat}(h:Va n []):n=0:=by
 generalize e:([]:List Expr)=l at h
 cases h with
 | nil=>rfl
 | snoc h1 X=>simp at e
theorem EO.of{k:Int}{n:Lf.Rat}{s:zn}{l:List Expr}{m:Nat}(h:Va m l)(B:l.length=arity k)(h1:1<=k)(X:k<=7)(hn:rg n)(h3:k=1->rl n<=16)(h4:k=2->nL s):EO (m+1) (.mk k n s l):=by
 unfold arity at B
 by_cases e1:k=1
 ·subst e1
  obtain rfl:l=[]:=by simpa using B
  rw[h.n0]; exact .num hn (h3 rfl)
 by_cases e2:k=2
 ·subst e2
  obtain rfl:l=[]:=by simpa using B
  rw[h.n0]; exact .nam (h4 rfl)
 by_cases e7:k=7
 ·subst e7
  obtain⟨a,rfl⟩:=List.length_eq_one_iff.1 (by simpa using B)
  obtain⟨i,j,rfl,g1,g2⟩:=h.inv [] a rfl
  rw[g1.n0]
  simpa using EO.neg g2
 ·rw[if_neg (Z),if_neg e7]at B
  match l,B with
  | [a,b],_ =>
  obtain⟨i,j,rfl,g1,g2⟩:=h.inv [a] b rfl
  obtain⟨i',j',rfl,g3,g4⟩:=g1.inv [] a rfl
  rw[g3.n0]
  simpa using EO.bin (Z) (Z) g4 g2
instance (l:List Expr) (g:Expr->Int->Int->T (Bool×Int)) (s:(Int×Unit)×Int×Int):Sp (wv g l (l.length:Int) s)
  (l.length<=2000000/\s.2.1=0/\0<=s.1.1/\s.1.1<32/\0<=s.2.2/\s.2.2<=256/\∀ e∈l,∀ d f:Int,0<=d/\d<=32/\0<=f/\f<=256->(g e d f).wp λr => -1<=r.2/\r.2<f/\(r.1=true->0<=r.2/\EO (f-r.2).toNat e))
  (λr=>match r with | .inl d=>0<=d/\d<=s.2.2/\Va (s.2.2-d).toNat l | .inr z=>0<=z.1 /\ -1<=z.2/\z.2<=s.2.2):=⟨λh=>by
 unfold wv
 refine T.vY (λ(c,a,d)=>c.1=s.1.1/\0<=a/\a<=l.length/\0<=d/\d<=s.2.2/\Va (s.2.2-d).toNat (l.take a.toNat)) (λ(_,a,_)=>(l.length-a).toNat) (by
  obtain⟨c,a,d⟩:=s
  dsimp only at *
  have:(d-d).toNat=0:=Z
  rw[h.2.1,this]
  exact⟨rfl,Z,Z,Z,Z,.nil⟩) λ⟨c,a,d⟩ ⟨h1,X,h3,h4,h5,h6⟩ => ?_
 unfold wV np
 dsimp only at *
 refine T.ze (λe => ?_) λe => ?_
 ·have e:=uC e
  refine T.qo ⟨X,e⟩ (T.xc (T.xc (T.xp (h.2.2.2.2.2.2 _ (xj X e) _ _ (by rw[qs (Z) (Z)]; omega)) λr hr => ?_)))
  refine T.zd (T.ze (λe1=>T.zd ⟨X,hr.1,Z⟩) λe1=>T.zd ?_)
  obtain⟨g1,g2⟩:=hr.2.2 (by simpa using e1)
  rw[qs (Z) (Z)]
  dsimp only
  refine⟨⟨h1,Z,Z,g1,Z,?_⟩,Z⟩
  rw[cV l a _ X e,show(s.2.2-r.2).toNat=(s.2.2-d).toNat+(d-r.2).toNat by omega]
  exact .snoc h6 g2
 ·have e:=ga e
  refine T.zd ⟨h4,h5,?_⟩
  rwa [zK (Z)]at h6⟩
instance (e:Expr) (d l:Int):Sp (Q8 e d l) (EW 2000000 e/\0<=d/\d<=32/\0<=l/\l<=256) (λr => -1<=r.2/\r.2<l/\(r.1=true->0<=r.2/\EO (l-r.2).toNat e)):=⟨λh=>by
 unfold Q8
 refine T.sZ (x:=(e,d,l)) (σ:=Expr×Int×Int) (ρ:=Bool×Int) (λ(e,d,l)=>EW 2000000 e/\0<=d/\d<=32/\0<=l/\l<=256) (λ(e,_,_)=>qL e) (λ(e,_,l) r => -1<=r.2/\r.2<l/\(r.1=true->0<=r.2/\EO (l-r.2).toNat e)) ?_ ?_ h
 ·intro g g' hg x
  unfold iT wU vo wv wV np
  exact mono
 ·intro⟨e,d,l⟩ ⟨he,h1,X,h3,h4⟩ g hg
  dsimp only at *
  have hn:=he
  cases he with
  | @mk kd n s L g1 g2 g3 g4 g5 =>
  have hk:∀ e∈L,∀ d f:Int,0<=d/\d<=32/\0<=f/\f<=256->(g (e,d,f)).wp λr => -1<=r.2/\r.2<f/\(r.1=true->0<=r.2/\EO (f-r.2).toNat e):=λe he d f h=>hg (e,d,f) ⟨g5 e he,h⟩ (by have:=List.sizeOf_lt_of_mem he; simp; omega)
  have hs:∀ (f:Int),Sp (wv (λy0 y1 y2=>g (y0,y1,y2)) L (L.length:Int) ((d,()),0,f)) (d<32/\0<=f/\f<=256) (λr=>match r with | .inl z=>0<=z/\z<=f/\Va (f-z).toNat L | .inr z=>0<=z.1 /\ -1<=z.2/\z.2<=f):=λf=>⟨λh=>Sp.sp ⟨g4,rfl,h1,h.1,h.2.1,h.2.2,hk⟩⟩
  have ho:∀ z:Int,Va (l-1-z).toNat L->L.length=arity kd->1<=kd->kd<=7->(kd=1->rl n<=16)->(kd=2->nL s)->0<=z->z<=l-1->EO (l-z).toNat (.mk kd n s L):=λz h a1 a2 a3 a4 a5 a6 a7=>by
   have:=EO.of h a1 a2 a3 g1 a4 a5
   rwa [show(l-1-z).toNat+1=(l-z).toNat by omega]at this
  unfold iT wU vo
  simp only[Expr.kids]
  rw[qs (Z) (Z)]
  have hi:Sp (nJ (.mk kd n s L)) True (λr=>r=true->L.length=arity kd/\1<=kd/\kd<=7/\(kd=1->rl n<=16)/\(kd=2->nL s)):=⟨λ_=>Sp.sp hn⟩
  clear hg hk g5 hn h g1 g2 g3 g4
  exact lW⟩
def EK(e:Expr):Prop:=∃ n,n<=256/\EO n e
instance (e:Expr):Sp (iS e) (EW 2000000 e) (λr=>r=true->EK e):=⟨λh=>by unfold iS EK; exact lW⟩
theorem Kh{s:zn}(h:okN s):cl s:=λb J=>by have:=h.2 b J; omega
instance (e:Expr):Sp (mF e) True (λr=>1<=r/\r<=4):=⟨λ_=>by unfold mF; exact lW⟩
instance (e:Expr):Sp (Q9 e) (EK e) (λr=>r.length<=665600/\cl r):=⟨λh=>by
 unfold Q9
 refine T.xp (P:=λr=>(∀ n,EO n e->r.length<=2600*n)/\cl r) ?_ λr hr=>⟨by obtain⟨n,h1,X⟩:=h; have:=hr.1 n X; omega,hr.2⟩
 refine T.sZ (x:=e) (σ:=Expr) (ρ:=zn) (λe=>∃ n,n<=256/\EO n e) (λe=>qL e) (λe r=>(∀ n,EO n e->r.length<=2600*n)/\cl r) ?_ ?_ h
 ·intro g g' hg x
  unfold gW dO
  exact mono
 ·intro e ⟨n,hn,he⟩ g hg
  have hs:∀ y,Sp (g y) ((∃ n,n<=256/\EO n y)/\qL y<qL e) (λr=>(∀ n,EO n y->r.length<=2600*n)/\cl r):=λy=>⟨λh=>hg y h.1 h.2⟩
  have hp:∀ y f,Sp (dO (λy0=>g y0) y f) ((∃ n,n<=256/\EO n y)/\qL y<qL e) (λr=>(∀ n,EO n y->r.length<=2600*n+2)/\cl r):=λy f=>⟨λh=>by
   have c0 := @ym
   have c3:cl [40]/\cl [41]:=qh
   unfold dO
   clear hg
   exact lW⟩
  clear hg h hs
  cases he with
  | num h1 X =>
   unfold gW
   simp only[Expr.kids,Expr.kind,Expr.num,Expr.name]
   have:∀ {n m s},EO n (.mk 1 m s [])->1<=n:=λh=>by cases h<;>omega
   refine T.xc (T.vD rfl ?_)
   exact lW
  | nam h1 =>
   have X:=Kh h1.2
   unfold gW
   simp only[Expr.kids,Expr.kind,Expr.num,Expr.name]
   have:∀ {n m s},EO n (.mk 2 m s [])->1<=n:=λh=>by cases h<;>omega
   refine T.xc (T.wz rfl (T.vD rfl ?_))
   exact lW
  | @neg m s i a h1 =>
   unfold gW
   simp only[Expr.kids,Expr.kind,Expr.num,Expr.name]
   have X:∀ {n},EO n (.mk 7 m s [a])->∃ j,n=j+1/\EO j a:=λh=>by cases h; exact⟨_,rfl,by assumption⟩
   refine T.xc (T.wz rfl (T.wz rfl (T.vD rfl (T.qo ⟨Z,qw⟩ (T.za ⟨⟨i,Z,h1⟩,by simp[nth]; omega⟩ λr hr => ?_)))))
   refine T.wJ (by have:=hr.1 i h1; simp; omega) (T.zd (T.zd ⟨λn hn => ?_,ym.2 ⟨qh,hr.2⟩⟩))
   obtain⟨j,rfl,hj⟩:=X hn
   have:=hr.1 j hj
   rw[dQ]; simp<;>omega
  | @bin k m s i j a b h1 X h3 h4 =>
   unfold gW
   simp only[Expr.kids,Expr.kind,Expr.num,Expr.name]
   have h5:∀ {n},EO n (.mk k m s [a,b])->∃ i j,n=i+j+1/\EO i a/\EO j b:=λh=>by cases h; exact⟨_,_,rfl,by assumption,by assumption⟩
   refine T.xc (T.wz (wa) (T.wz (wa) (T.wz (wa) (T.xp (P:=λz=>∃ c:zn,z=.inl c/\c.length<=3/\cl c) (by clear hp; have c3:cl [32,43,32]/\cl [32,45,32]/\cl [32,42,32]/\cl [32,47,32]/\cl []:=(qh); exact lW) ?_))))
   rintro z ⟨c,rfl,hc⟩
   refine T.qo ⟨Z,by simp<;>omega⟩ (T.za trivial λy hy=>T.za ⟨⟨i,Z,h3⟩,by simp[nth]; omega⟩ λr hr=>T.wJ (by have:=hr.1 i h3; omega) (T.qo ⟨Z,qw⟩ (T.za trivial λy hy=>T.za ⟨⟨j,Z,h4⟩,by simp[nth]; omega⟩ λr' DB=>T.wJ (by have:=hr.1 i h3; have:=DB.1 j h4; rw[dQ]; omega) (T.zd ⟨λn hn => ?_,ym.2 ⟨ym.2 ⟨hr.2,hc.2⟩,DB.2⟩⟩))))
   obtain⟨i',j',rfl,hi,hj⟩:=h5 hn
   have:=hr.1 i' hi
   have:=DB.1 j' hj
   rw[dQ,dQ]; omega⟩
instance (e:Expr):Sp (sc e) (EW 2000000 e) (λr=>r.length<=665600/\cl r):=⟨λh=>by have c3:cl []:=(qh); unfold sc; exact lW⟩
end Go.AM
namespace Go.AM.Lf
open T PL
abbrev KK:Nat:=2000000
def stg:List zn:=[[114,101,113,117,105,114,101,100],[115,116,114,111,110,103],[109,101,100,105,117,109],[119,101,97,107]]
def FW(k:Nat)(f:Form):Prop :=
 (f.1.length<=k/\∀ x∈f.1,x.1.length<=KK)/\(f.2.1.length<=k/\∀ x∈f.2.1,x.1.length<=KK/\rg x.2.1/\rl x.2.1<=KK)/\(f.2.2.1.length<=k/\∀ x∈f.2.2.1,x.1.length<=KK/\x.2.1.length<=KK) /\
 (f.2.2.2.1.length<=k/\∀ x∈f.2.2.2.1,x.1.length<=KK)/\(f.2.2.2.2.1.length<=k/\∀ x∈f.2.2.2.2.1,x.1.length<=KK/\x.2.2.1.length<=KK/\EW KK x.2.2.2.1/\EW KK x.2.2.2.2.1) /\
 (f.2.2.2.2.2.1.length<=k/\∀ x∈f.2.2.2.2.2.1,x.1.length<=KK/\EW KK x.2.2.2.1/\EW KK x.2.2.2.2.1)
def FO(f:Form):Prop :=
 (∀ x∈f.1,nL x.1)/\(∀ x∈f.2.1,nL x.1/\rl x.2.1<=16)/\(∀ x∈f.2.2.1,nL x.1/\wL x.2.1) /\
 (∀ x∈f.2.2.2.1,nL x.1/\0<=x.2.1/\x.2.1<f.2.2.1.length/\0<=x.2.2.2.1/\x.2.2.2.1<=9)/\(∀ x∈f.2.2.2.2.1,nL x.1/\0<=x.2.1/\x.2.1<4/\wL x.2.2.1/\EK x.2.2.2.1/\EK x.2.2.2.2.1) /\
 (∀ x∈f.2.2.2.2.2.1,nL x.1/\0<=x.2.2.1/\x.2.2.1<3/\EK x.2.2.2.1/\EK x.2.2.2.2.1)
theorem cJ{σ ρ α:Type}(l:List α)(d:α)(ix:σ->Int)(A P:α->Prop)(hb:σ->Prop)(hA:∀ x∈l,A x){r:σ->T (σ⊕ρ)}{Q:ρ->Prop}{s:σ}(hs:ix s=0/\hb s)
  (step:∀ s x,hb s->A x->nth l (ix s) d=x->0<=ix s->ix s<l.length->(r s).wp λz=>match z with | .inl s'=>ix s'=ix s+1/\hb s'/\P x | .inr y=>Q y)
  (done:∀ s,hb s->ix s=l.length->(∀ x∈l,P x)->(r s).wp λz=>match z with | .inl _=>False | .inr y=>Q y):(T.loop r s).wp Q:=by
 refine T.vY (λs=>0<=ix s/\ix s<=l.length/\hb s/\∀ j:Int,0<=j->j<ix s->P (nth l j d)) (λs=>(l.length-ix s).toNat) ⟨Z,Z,hs.2,λj h0 h1=>Z⟩ λs ⟨h0,h1,X,h3⟩ => ?_
 by_cases h:ix s<l.length
 ·refine T.xp (step s _ X (hA _ (xj h0 h)) rfl h0 h) λz hz => ?_
  cases z with
  | inl s' =>
   obtain⟨e,hj,hp⟩:=hz
   refine⟨⟨Z,Z,hj,λj k0 k1 => ?_⟩,Z⟩
   by_cases e':j=ix s
   ·subst e'; exact hp
   ·exact h3 j k0 (Z)
  | inr y=>exact hz
 ·refine T.xp (done s X (Z) λx U => ?_) λz hz => ?_
  ·obtain⟨j,k0,k1,rfl⟩:=J0 (d:=d) U
   exact h3 j k0 (Z)
  ·cases z with
   | inl s'=>exact hz.elim
   | inr y=>exact hz
theorem each{σ ρ α:Type}(l:List α)(d:α)(ix:σ->Int)(A P:α->Prop)(hb:σ->Prop)(hA:∀ x∈l,A x){r:σ->T (σ⊕ρ)}{Q:ρ->Prop}{s:σ}(hs:ix s=0/\hb s:=by grind)
  (step:∀ s x,hb s->A x->nth l (ix s) d=x->0<=ix s->ix s<l.length->(r s).wp λz=>match z with | .inl s'=>ix s'=ix s+1/\hb s'/\P x | .inr y=>Q y:=by
 intros
 repeat' (with_reducible first
  | refine T.zd ?_
  | refine T.ze (λ_ => ?_) (λ_ => ?_)
  | refine T.z8 ?_
  | refine T.zc ?_
  | refine T.uz ?_ ?_
  | refine T.qo ?_ ?_
  | refine T.vS ?_ ?_
  | refine T.wJ ?_ ?_
  | refine T.zi ?_ ?_
  | refine T.vX (λ_ _ => ?_) (λ_ _ => ?_)
  | refine T.za ?_ (λ_ _ => ?_)
  | refine T.vE ?_ (λ_ _ => ?_)
  | refine T.xc ?_
  | dsimp only)
 all_goals grind [xe,j6,dS,jv,vZ,jc,EB,BE,VE,V4,dQ])
  (done:∀ s,hb s->ix s=l.length->(∀ x∈l,P x)->(r s).wp λz=>match z with | .inl _=>False | .inr y=>Q y:=by
 intros
 repeat' (with_reducible first
  | refine T.zd ?_
  | refine T.ze (λ_ => ?_) (λ_ => ?_)
  | refine T.z8 ?_
  | refine T.zc ?_
  | refine T.uz ?_ ?_
  | refine T.qo ?_ ?_
  | refine T.vS ?_ ?_
  | refine T.wJ ?_ ?_
  | refine T.zi ?_ ?_
  | refine T.vX (λ_ _ => ?_) (λ_ _ => ?_)
  | refine T.za ?_ (λ_ _ => ?_)
  | refine T.vE ?_ (λ_ _ => ?_)
  | refine T.xc ?_
  | dsimp only)
 all_goals grind):(T.loop r s).wp Q:=cJ l d ix A P hb hA hs step done
theorem goq{p:Prop} (h:p:=by
 intros
 repeat' (with_reducible first
  | refine T.zd ?_
  | refine T.ze (λ_ => ?_) (λ_ => ?_)
  | refine T.z8 ?_
  | refine T.zc ?_
  | refine T.uz ?_ ?_
  | refine T.qo ?_ ?_
  | refine T.vS ?_ ?_
  | refine T.wJ ?_ ?_
  | refine T.zi ?_ ?_
  | refine T.vX (λ_ _ => ?_) (λ_ _ => ?_)
  | refine T.za ?_ (λ_ _ => ?_)
  | refine T.vE ?_ (λ_ _ => ?_)
  | refine T.xc ?_
  | dsimp only)
 all_goals grind [xe,j6,dS,jv,jc,EB,BE,VE]):p:=h
instance (x:Switch):Sp (gi x) (x.1.length<=KK) (λr=>r=false->nL x.1):=⟨λh=>by unfold gi; exact lW⟩
instance (x:Param):Sp (gj x) (x.1.length<=KK/\rg x.2.1/\rl x.2.1<=KK) (λr=>r=false->nL x.1/\rl x.2.1<=16):=⟨λh=>by have:nm x.2.1↔norm x.2.1=x.2.1:=Iff.rfl; unfold gj; exact lW⟩
instance (x:zn):Sp (lK x) (x.length<=KK) (λr=>r=true->wL x):=⟨λh=>by unfold lK; exact lW⟩
instance (x:ct):Sp (gm x) (x.1.length<=KK/\x.2.1.length<=KK) (λr=>r=false->nL x.1/\wL x.2.1):=⟨λh=>by unfold gm; exact lW⟩
instance:Sp ye True (λr=>r.length=4/\(∀ s∈r,s.length<=8)/\r=stg):=⟨λ_=>by unfold ye; exact T.zd ⟨rfl,qh,rfl⟩⟩
instance:Sp bV True (λr=>r.length=3/\∀ s∈r,s.length<=2/\cl s):=⟨λ_=>by unfold bV; exact T.zd ⟨rfl,qh⟩⟩
instance (x:cf):Sp (yd x) (x.1.length<=KK/\x.2.2.1.length<=KK/\EW KK x.2.2.2.1/\EW KK x.2.2.2.2.1) (λr=>r=false->nL x.1/\0<=x.2.1/\x.2.1<4/\wL x.2.2.1/\EK x.2.2.2.1/\EK x.2.2.2.2.1):=⟨λh=>by unfold yd; exact goq⟩
instance (f:Form):Sp (tT f) (FW KK f) (λr=>r=true->(∀ x∈f.1,nL x.1)/\(∀ x∈f.2.1,nL x.1/\rl x.2.1<=16)/\(∀ x∈f.2.2.1,nL x.1/\wL x.2.1)):=⟨λh=>by unfold tT; unfold FW at h; exact goq⟩
instance (a b c:Int):Sp (lJ a b c) True (λr=>r=true->0<=a/\a<c):=⟨λ_=>by unfold lJ; exact lW⟩
instance (f:Form) (s:Int×Int):Sp (oP f f.2.2.2.1 (f.2.2.2.1.length:Int) s) (s.2=0/\f.2.2.2.1.length<=KK/\∀ x∈f.2.2.2.1,x.1.length<=KK)
  (λr=>match r with | .inl _=>∀ x∈f.2.2.2.1,nL x.1/\0<=x.2.1/\x.2.1<f.2.2.1.length/\0<=x.2.2.2.1/\x.2.2.2.1<=9 | .inr b=>b=false):=⟨λh=>by
 unfold oP oQ
 exact each f.2.2.2.1 (zb qq) (λ(_,i)=>i) (λx=>x.1.length<=KK) (λx=>nL x.1/\0<=x.2.1/\x.2.1<f.2.2.1.length/\0<=x.2.2.2.1/\x.2.2.2.1<=9) (λ(_,i)=>i<=KK) h.2.2⟩
instance (f:Form) (s:Int×Int):Sp (oN f f.2.2.2.2.2.1 (f.2.2.2.2.2.1.length:Int) s) (s.2=0/\f.2.2.2.2.2.1.length<=KK/\∀ x∈f.2.2.2.2.2.1,x.1.length<=KK/\EW KK x.2.2.2.1/\EW KK x.2.2.2.2.1)
  (λr=>match r with | .inl _=>∀ x∈f.2.2.2.2.2.1,nL x.1/\0<=x.2.2.1/\x.2.2.1<3/\EK x.2.2.2.1/\EK x.2.2.2.2.1 | .inr b=>b=false):=⟨λh=>by
 unfold oN oO
 exact each f.2.2.2.2.2.1 (zb xi) (λ(_,i)=>i) (λx=>x.1.length<=KK/\EW KK x.2.2.2.1/\EW KK x.2.2.2.2.1) (λx=>nL x.1/\0<=x.2.2.1/\x.2.2.1<3/\EK x.2.2.2.1/\EK x.2.2.2.2.1) (λ(_,i)=>i<=KK) h.2.2⟩
open T PL
inductive It
 | sw (n:zn) (b:Bool)
 | pg (n w:zn)
 | ot (k n t:zn)
def CO(w:zn):zn:=if w=[]then[]else cat [32,119,104,101,110,32] w
def onS(b:Bool):zn:=bif b then[32,111,110,10]else[32,111,102,102,10]
def It.HR:It->zn
 | .sw n b=>cat (cat [115,119,105,116,99,104,32] n) (bif b then[32,111,110]else[32,111,102,102])
 | .pg n w=>cat (cat [112,97,103,101,32] n) (CO w)
 | .ot k n t=>cat (cat k n) t
def It.sws:It->List zn
 | .sw n _=>[n]
 | _=>[]
def It.pgs:It->List (zn×zn)
 | .pg n w=>[(n,w)]
 | _=>[]
def sps(t:zn):Prop:=t=[]\/t.head? = some 32
def ruK(s:zn):zn:=cat (cat [114,117,108,101,32] s) [32]
def kws:List zn:=[[112,97,114,97,109,32],[102,105,101,108,100,32],[99,104,101,99,107,32]]++stg.map ruK
def It.ok(N:zn->Prop):It->Prop
 | .sw n _=>okN n
 | .pg n w=>okN n/\(w=[]\/okN w)
 | .ot k n t=>k∈kws/\okN n/\N n/\cl t/\sps t
def H3(N:zn->Prop):It->Prop
 | .ot k n t=>It.ok N (.ot k n t)
 | _=>False
def tx(l:List It):zn:=l.flatMap λi=>i.HR++[10]
def Li(P:It->Prop)(s:zn):Prop:=∃ i,P i/\s=i.HR++[10]
def Ap(P:It->Prop)(c c':List Int):Prop:=∃ l,c'=c++bytesOf (tx l)/\∀ i∈l,P i
theorem D6(a b:zn):bytesOf (a++b)=bytesOf a++bytesOf b:=qW
theorem Ep(a b:List It):tx (a++b)=tx a++tx b:=qA
theorem zfy(i:It):tx [i]=i.HR++[10]:=by simp[tx]
theorem z0P(P:It->Prop)(c:List Int):Ap P c c:=⟨[],by simp[tx,bytesOf],nofun⟩
theorem z6Y{P:It->Prop}{c c':List Int}{s:zn}(h:Ap P c c')(k:Li P s):Ap P c (c'++bytesOf s):=by
 obtain⟨l,rfl,h1⟩:=h
 obtain⟨i,X,rfl⟩:=k
 refine⟨l++[i],by rw[Ep,zfy,D6 _ (_++_),qR],λj hj => ?_⟩
 rcases zS.1 hj with q | q
 ·exact h1 j q
 ·rw[zV.1 q]; exact X
def Fd(n r:zn):Prop:=∃ t,r=cat (cat (cat [102,105,101,108,100,32] n) t) [10]/\cl t/\sps t
def Sd(r:zn):Prop:=∃ t,r=cat t [10]/\cl t/\t.head? = some 32
theorem zj9{N:zn->Prop}{n r:zn}(h:nL n)(hN:N n)(k:Fd n r):Li (H3 N) r:=by
 obtain⟨t,rfl,h1,X⟩:=k
 exact⟨.ot [102,105,101,108,100,32] n t,⟨qh,h.2,hN,h1,X⟩,rfl⟩
theorem zj8{N:zn->Prop}{n r:zn}(h:nL n)(hN:N n)(k:Sd r):Li (H3 N) (cat (cat [99,104,101,99,107,32] n) r):=by
 obtain⟨t,rfl,h1,X⟩:=k
 exact⟨.ot [99,104,101,99,107,32] n t,⟨qh,h.2,hN,h1,.inr X⟩,by simp[It.HR,cat]⟩
theorem zja{N:zn->Prop}{n e:zn}(h:nL n)(hN:N n)(k:cl e):Li (H3 N) (cat (cat (cat (cat [112,97,114,97,109,32] n) [32]) e) [10]) :=
 ⟨.ot [112,97,114,97,109,32] n (32::e),⟨qh,h.2,hN,(ym (a:=[32]) (b:=e)).2 ⟨qh,k⟩,.inr rfl⟩,by simp[It.HR,cat]⟩
theorem zfA{w:zn}(h:wL w):cl (CO w):=by
 unfold CO
 split
 ·exact(qh)
 ·rename_i e; exact ym.2 ⟨qh,Kh (h.2.resolve_left e)⟩
theorem zjb{N:zn->Prop}{s n w r:zn}(hs:s∈stg)(h:nL n)(hN:N n)(hw:wL w)(k:Sd r):Li (H3 N) (cat (cat (cat (cat (cat [114,117,108,101,32] s) [32]) n) (CO w)) r):=by
 obtain⟨t,rfl,h1,X⟩:=k
 refine⟨.ot (ruK s) n (cat (CO w) t),⟨zS.2 (.inr (xP.2 ⟨s,hs,rfl⟩)),h.2,hN,ym.2 ⟨zfA hw,h1⟩,.inr ?_⟩,by simp[It.HR,cat,ruK]⟩
 unfold CO cat
 split
 ·exact X
 ·rfl
theorem zjc{n:zn}(h:nL n)(b:Bool):Li (· = .sw n b) (cat (cat [115,119,105,116,99,104,32] n) (onS b)):=⟨_,rfl,by cases b<;>simp[It.HR,cat,onS]⟩
def fm(f:Form)(n:zn):Prop:=(∃ x∈f.2.1,x.1=n)\/(∃ x∈f.2.2.2.1,x.1=n)\/(∃ x∈f.2.2.2.2.1,x.1=n)\/∃ x∈f.2.2.2.2.2.1,x.1=n
def Kk(p:ct):zn×zn:=(p.1,p.2.1)
def Ag(N:zn->Prop)(c c':List Int)(b:List (zn×zn)):Prop:=∃ l,c'=c++bytesOf (tx l)/\(∀ i∈l,It.ok N i)/\l.flatMap It.pgs=b/\l.flatMap It.sws=[]
theorem N3{N:zn->Prop}:∀ {i:It},H3 N i->i.ok N/\i.pgs=[]/\i.sws=[]
 | .ot _ _ _,h=>⟨h,rfl,rfl⟩
theorem It.mono{N M:zn->Prop}(h:∀ n,N n->M n):∀ {i:It},i.ok N->i.ok M
 | .sw _ _,k=>k
 | .pg _ _,k=>k
 | .ot _ _ _,k=>⟨k.1,k.2.1,h _ k.2.2.1,k.2.2.2⟩
theorem fl0{α:Type}{g:It->List α}{l:List It}(h:∀ i∈l,g i=[]):l.flatMap g=[]:=by
 rw[List.flatMap_eq_nil_iff]; exact h
theorem z0N{N M:zn->Prop}{c c':List Int}(k:Ap (H3 N) c c')(h:∀ n,N n->M n):Ag M c c' []:=by
 obtain⟨l,rfl,h1⟩:=k
 exact⟨l,rfl,λi hi=>It.mono h (N3 (h1 i hi)).1,fl0 λi hi=>(N3 (h1 i hi)).2.1,fl0 λi hi=>(N3 (h1 i hi)).2.2⟩
theorem z0O{N:zn->Prop}{a b c:List Int}{x y:List (zn×zn)}(h:Ag N a b x)(k:Ag N b c y):Ag N a c (x++y):=by
 obtain⟨l,rfl,h1,X,h3⟩:=h
 obtain⟨m,rfl,k1,k2,k3⟩:=k
 exact⟨l++m,by rw[Ep,D6,qR],λj hj=>(zS.1 hj).elim (h1 j) (k1 j),by rw[qA,X,k2],by rw[qA,h3,k3]; rfl⟩
theorem zop{N:zn->Prop}{n w:zn}(h:nL n)(hw:wL w)(c:List Int):Ag N c (c++bytesOf (cat (cat (cat [112,97,103,101,32] n) (CO w)) [10])) [(n,w)] :=
 ⟨[.pg n w],by rw[zfy]; rfl,λi hi=>by rw[zV.1 hi]; exact⟨h.2,hw.2⟩,rfl,rfl⟩
def Tx(f:Form)(r:zn):Prop:=∃ l:List It,r=tx l/\(∀ i∈l,i.ok (fm f))/\l.flatMap It.sws=f.1.map (·.1)/\l.flatMap It.pgs=f.2.2.1.map Kk
def swl(l:List Switch):List It:=l.map λx=>.sw x.1 x.2.1
theorem zcW(s:zn):jd (bytesOf s)=s:=by
 unfold jd bytesOf
 rw[List.map_map]
 conv=>rhs; rw[<- List.map_id s]
 refine List.map_congr_left λb _ => ?_
 simp[byteOf]
theorem zgq{f:Form}{b c d e:List Int}(hs:∀ x∈f.1,nL x.1)(h0:b=bytesOf (tx (swl f.1)))(h1:Ap (H3 λn=>∃ x∈f.2.1,x.1=n) b c)(X:Ag (fm f) c d (f.2.2.1.map Kk))(h3:Ap (H3 λn=>∃ x∈f.2.2.2.2.1,x.1=n) d e):Tx f (jd e):=by
 obtain⟨l,rfl,k1,k2,k3⟩:=z0O (z0O (z0N h1 λn h=>.inl h) X) (z0N (M:=fm f) h3 λn h=>.inr (.inr (.inl h)))
 subst h0
 refine⟨swl f.1++l,by rw[<- D6,<- Ep,zcW],λi hi => ?_,?_,?_⟩
 ·rcases zS.1 hi with q | q
  ·obtain⟨x,U,rfl⟩:=xP.1 q; exact(hs x U).2
  ·exact k1 i q
 ·rw[qA,k3,List.append_nil]; unfold swl; rw[List.flatMap_map]; induction f.1<;>simp_all [It.sws]
 ·rw[qA,k2]; unfold swl; rw[List.flatMap_map]; simp[It.pgs]
open T PL
instance (f:Form):Sp (pS f) (FW 8200 f) (λr=>r=true->∀ x∈f.2.2.2.1,nL x.1/\0<=x.2.1/\x.2.1<f.2.2.1.length/\0<=x.2.2.2.1/\x.2.2.2.1<=9):=⟨λh=>by unfold FW at h; unfold pS; exact goq⟩
instance (f:Form):Sp (pR f) (FW 8200 f) (λr=>r=true->(∀ x∈f.2.2.2.2.1,nL x.1/\0<=x.2.1/\x.2.1<4/\wL x.2.2.1/\EK x.2.2.2.1/\EK x.2.2.2.2.1) /\
 (∀ x∈f.2.2.2.2.2.1,nL x.1/\0<=x.2.2.1/\x.2.2.1<3/\EK x.2.2.2.1/\EK x.2.2.2.2.1)):=⟨λh=>by unfold FW at h; unfold pR; exact goq⟩
def bt(l:List Int):Prop:=∀ n∈l,(0:Int)<=n/\n<256
theorem Vx{l:List Int}(h:bt l)(s:zn):bt (l++bytesOf s):=λn hn=>by
 rcases zS.1 hn with k | k
 ·exact h n k
 ·unfold bytesOf at k
  obtain⟨b,_,rfl⟩:=xP.1 k
  have:=b.toNat_lt
  omega
theorem eC(s:zn):(bytesOf s).length=s.length:=by unfold bytesOf; simp
instance (b:zn) (c:List Int):Sp (xr b () c) (c.length+b.length<=140737488355328) (λr=>r.2.2=c++bytesOf b):=⟨λh=>by
 have:=eC b
 unfold xr Z0 vZ
 exact goq⟩
theorem goa{p:Prop} (h:p:=by
 intros
 repeat' (with_reducible first
  | refine T.zd ?_
  | refine T.ze (λ_ => ?_) (λ_ => ?_)
  | refine T.z8 ?_
  | refine T.zc ?_
  | refine T.uz ?_ ?_
  | refine T.qo ?_ ?_
  | refine T.vS ?_ ?_
  | refine T.wJ ?_ ?_
  | refine T.zi ?_ ?_
  | refine T.vX (λ_ _ => ?_) (λ_ _ => ?_)
  | refine T.za ?_ (λ_ _ => ?_)
  | refine T.vE ?_ (λ_ _ => ?_)
  | refine T.xc ?_
  | dsimp only)
 all_goals try simp only[dQ,List.length_cons,List.length_nil,Nat.reduceAdd,Nat.zero_add]
 all_goals grind [xe,j6,dS,jv,vZ,jc,dQ,Vx,eC,V4,VE]):p:=h
theorem Oh{σ ρ α:Type}(l:List α)(d:α)(ix:σ->Int)(A P:α->Prop)(hb:σ->Prop)(hA:∀ x∈l,A x){r:σ->T (σ⊕ρ)}{Q:ρ->Prop}{s:σ}(hs:ix s=0/\hb s:=by grind)
  (step:∀ s x,hb s->A x->nth l (ix s) d=x->0<=ix s->ix s<l.length->(r s).wp λz=>match z with | .inl s'=>ix s'=ix s+1/\hb s'/\P x | .inr y=>Q y:=by
 intros
 repeat' (with_reducible first
  | refine T.zd ?_
  | refine T.ze (λ_ => ?_) (λ_ => ?_)
  | refine T.z8 ?_
  | refine T.zc ?_
  | refine T.uz ?_ ?_
  | refine T.qo ?_ ?_
  | refine T.vS ?_ ?_
  | refine T.wJ ?_ ?_
  | refine T.zi ?_ ?_
  | refine T.vX (λ_ _ => ?_) (λ_ _ => ?_)
  | refine T.za ?_ (λ_ _ => ?_)
  | refine T.vE ?_ (λ_ _ => ?_)
  | refine T.xc ?_
  | dsimp only)
 all_goals try simp only[dQ,List.length_cons,List.length_nil,Nat.reduceAdd,Nat.zero_add]
 all_goals grind [xe,j6,dS,jv,vZ,jc,dQ,Vx,eC,V4,VE])
  (done:∀ s,hb s->ix s=l.length->(∀ x∈l,P x)->(r s).wp λz=>match z with | .inl _=>False | .inr y=>Q y:=by
 intros
 repeat' (with_reducible first
  | refine T.zd ?_
  | refine T.ze (λ_ => ?_) (λ_ => ?_)
  | refine T.z8 ?_
  | refine T.zc ?_
  | refine T.uz ?_ ?_
  | refine T.qo ?_ ?_
  | refine T.vS ?_ ?_
  | refine T.wJ ?_ ?_
  | refine T.zi ?_ ?_
  | refine T.vX (λ_ _ => ?_) (λ_ _ => ?_)
  | refine T.za ?_ (λ_ _ => ?_)
  | refine T.vE ?_ (λ_ _ => ?_)
  | refine T.xc ?_
  | dsimp only)
 all_goals try simp only[dQ,List.length_cons,List.length_nil,Nat.reduceAdd,Nat.zero_add]
 all_goals grind [xe,j6,dS,jv,vZ,jc,dQ,Vx,eC,V4,VE]):(T.loop r s).wp Q:=cJ l d ix A P hb hA hs step done
instance (a:zn):Sp (sS a) (a.length<=1000000) (λr=>r.length<=a.length+6/\r=CO a):=⟨λh=>by
 unfold sS CO
 refine T.ze (λe => ?_) λe => ?_
 ·have e:a=[]:=by simpa[xx]using e
  subst e; exact T.zd ⟨qw,rfl⟩
 ·have e:a≠[]:=by simpa[xx]using e
  rw[if_neg e]
  exact T.wJ (by simp; omega) (T.zd ⟨by rw[dQ]; simp; omega,rfl⟩)⟩
theorem z7n(n:Nat):cl (HZ n):=by
 induction n using zR with
 | _ n ih =>
  intro b J
  rw[HZ]at J
  split at J
  ·rw[zV.1 J,UInt8.toNat_ofNat']; omega
  ·rcases zS.1 J with h | h
   ·exact ih _ (Z) b h
   ·rw[zV.1 h,UInt8.toNat_ofNat']; omega
theorem z2I(n:Int)(h0:0<=n)(h:n<1000000000000000000):(KH n).length<=18:=by
 have key:∀ (k u:Nat),u<10 ^ (k+1)->(HZ u).length<=k+1:=by
  intro k
  induction k with
  | zero=>intro u hu; rw[HZ,dif_pos (Z)]; simp
  | succ k ih =>
   intro u hu
   rw[HZ]
   split
   ·simp
   ·have:=ih (u / 10) (by rw[zE]at hu; omega)
    simp; omega
 unfold KH
 rw[if_neg (Z)]
 exact key 17 _ (Z)
instance (a:Int):Sp (strconv_Itoa a) (0<=a/\a<1000000000000000000) (λr=>r.length<=18/\cl r):=⟨λh=>by unfold strconv_Itoa; exact T.zi (Z) (T.zd ⟨z2I _ h.1 h.2,by unfold KH; rw[if_neg (Z)]; exact z7n _⟩)⟩
instance (x:Field):Sp (tS x) (nL x.1/\0<=x.2.2.2.1/\x.2.2.2.1<=9) (λr=>r.length<=80/\Fd x.1 r):=⟨λh=>by
 obtain⟨n,p,m,s,u⟩:=x
 have f0:Fd n (cat (cat [102,105,101,108,100,32] n) [10]):=⟨[],by simp[cat],qh,.inl rfl⟩
 have f1:Fd n (cat (cat (cat [102,105,101,108,100,32] n) [32,109,117,115,116]) [10]):=⟨_,rfl,qh,.inr rfl⟩
 have f2:∀ e,cl e->Fd n (cat (cat (cat [102,105,101,108,100,32] n) (cat [32,115,99,97,108,101,32] e)) [10]):=λe k=>⟨_,rfl,ym.2 ⟨qh,k⟩,.inr rfl⟩
 have f3:∀ e,cl e->Fd n (cat (cat (cat (cat [102,105,101,108,100,32] n) [32,109,117,115,116]) (cat [32,115,99,97,108,101,32] e)) [10]):=λe k=>⟨cat [32,109,117,115,116] (cat [32,115,99,97,108,101,32] e),by simp[cat],ym.2 ⟨qh,ym.2 ⟨qh,k⟩⟩,.inr rfl⟩
 unfold tS
 cases m<;>dsimp only[cond_true,cond_false]<;>exact goa⟩
instance (a b:Expr) (s:zn):Sp (o5 a s b) (EW KK a/\EW KK b/\s.length<=2/\cl s) (λr=>r.length<=1331300/\Sd r):=⟨λh=>by
 have s0:∀ c d:zn,cl c->cl s->cl d->Sd (cat (cat (cat (cat (cat (cat [32,58,32] c) [32]) s) [32]) d) [10]):=λc d h1 X h3=>⟨_,rfl,by simp only[ym]; exact⟨⟨⟨⟨⟨qh,h1⟩,qh⟩,X⟩,qh⟩,h3⟩,rfl⟩
 unfold o5; exact goa⟩
instance (i:Int) (f:Form) (s:Int×Unit×List Int):Sp (oR i f f.2.2.2.1 (f.2.2.2.1.length:Int) s) (s.1=0/\f.2.2.2.1.length<=8200/\(∀ x∈f.2.2.2.1,nL x.1/\0<=x.2.1/\x.2.1<f.2.2.1.length/\0<=x.2.2.2.1/\x.2.2.2.1<=9)/\bt s.2.2/\s.2.2.length<=100000000000000)
  (λr=>bt r.2/\r.2.length<=s.2.2.length+80*8200/\Ap (H3 λn=>∃ x∈f.2.2.2.1,x.1=n) s.2.2 r.2):=⟨λh=>by
 have hA:∀ x∈f.2.2.2.1,(nL x.1/\0<=x.2.1/\x.2.1<f.2.2.1.length/\0<=x.2.2.2.1/\x.2.2.2.1<=9)/\∀ r,Fd x.1 r->Li (H3 λn=>∃ x∈f.2.2.2.1,x.1=n) r:=λx U=>⟨h.2.2.1 x U,λr k=>zj9 (h.2.2.1 x U).1 ⟨x,U,rfl⟩ k⟩
 generalize (H3 λn=>∃ x∈f.2.2.2.1,x.1=n)=P at *
 have a0:=z0P P s.2.2
 have a1:=λ{c t} => @z6Y P s.2.2 c t
 unfold oR oT
 exact Oh f.2.2.2.1 (zb qq) (λ(i,_,_)=>i) _ (λ_=>True) (λ(i,_,c)=>0<=i/\i<=8200/\bt c/\(c.length:Int)<=s.2.2.length+80*i/\Ap P s.2.2 c) hA⟩
instance (i:Int) (l:List Check) (s:Int×Unit×List Int):Sp (oS i l (l.length:Int) s) (s.1=0/\l.length<=8200/\(∀ x∈l,nL x.1/\0<=x.2.2.1/\x.2.2.1<3/\EW KK x.2.2.2.1/\EW KK x.2.2.2.2.1)/\bt s.2.2/\s.2.2.length<=100000000000000)
  (λr=>bt r.2/\r.2.length<=s.2.2.length+1331400*8200/\Ap (H3 λn=>∃ x∈l,x.1=n) s.2.2 r.2):=⟨λh=>by
 have hA:∀ x∈l,(nL x.1/\0<=x.2.2.1/\x.2.2.1<3/\EW KK x.2.2.2.1/\EW KK x.2.2.2.2.1)/\∀ r,Sd r->Li (H3 λn=>∃ x∈l,x.1=n) (cat (cat [99,104,101,99,107,32] x.1) r):=λx U=>⟨h.2.2.1 x U,λr k=>zj8 (h.2.2.1 x U).1 ⟨x,U,rfl⟩ k⟩
 generalize (H3 λn=>∃ x∈l,x.1=n)=P at *
 have a0:=z0P P s.2.2
 have a1:=λ{c t} => @z6Y P s.2.2 c t
 have hn:∀ (l:List zn) (i:Int),(l.length=3/\∀ s∈l,s.length<=2/\cl s)->0<=i->i<3->(nth l i (zb .str)).length<=2/\cl (nth l i (zb .str)):=λl i h h0 h1=>h.2 _ (xj h0 (Z))
 unfold oS
 refine cJ l (zb xi) (λ(i,_,_)=>i) _ (λ_=>True) (λ(i,_,c)=>0<=i/\i<=8200/\bt c/\(c.length:Int)<=s.2.2.length+1331400*i/\Ap P s.2.2 c) hA (by obtain⟨i,u,c⟩:=s; obtain rfl:i=0:=h.1; exact⟨rfl,qh,qh,h.2.2.2.1,by show(c.length:Int)<=c.length+_*0; omega,a0⟩) ?_ ?_
 ·rintro⟨j,u,c⟩ x ⟨j0,j1,J,hc,ha⟩ ⟨U,hy⟩ e i0 i1
  unfold fA
  dsimp only at *
  rw[e]
  have hw:q9 (j+1)=j+1:=qs (Z) (Z)
  have n1:=U.1.1
  have X:=h.2.1
  have h5:=h.2.2.2.2
  refine T.vD (decide_eq_true i1) (T.qo ⟨i0,i1⟩ (T.ze (λ_=>T.wJ (by simp; omega) (T.za trivial λv hv => ?_)) λ_=>T.zc (T.z8 (T.zd ?_))))
  ·have HP:=hn v x.2.2.1 hv U.2.1 U.2.2.1
   refine T.zi ⟨U.2.1,Int.lt_of_lt_of_le U.2.2.1 (by have:=hv.1; omega)⟩ (T.za ⟨by rw[VE]; exact U.2.2.2.1,by rw[VE]; exact U.2.2.2.2,HP⟩ λt ht => ?_)
   have lt:(cat (cat [99,104,101,99,107,32] x.1) t).length<=1331400:=by rw[dQ,dQ]; have:=ht.1; simp; omega
   refine T.wJ (by rw[dQ]; have:=ht.1; simp; omega) (T.zc (T.z8 (T.za (Z) λ⟨_,_,d⟩ hz=>T.zc (T.z8 (T.zd ?_)))))
   have hz:d=_:=hz
   subst hz
   rw[hw]
   dsimp only
   exact⟨rfl,⟨Z,Z,Vx J _,by rw[List.length_append,eC]; omega,a1 ha (hy t ht.2)⟩,trivial⟩
  ·rw[hw]
   dsimp only
   exact⟨rfl,⟨Z,Z,J,Z,ha⟩,trivial⟩
 ·rintro⟨j,u,c⟩ ⟨j0,j1,J,hc,ha⟩ e _
  unfold fA
  dsimp only at *
  exact T.wz (decide_eq_false (Z)) (T.zc (T.z8 (T.zd ⟨J,by have:=h.2.1; show c.length<=_; omega,ha⟩)))⟩
def FV(f:Form):Prop:=FW 8200 f/\FO f
instance (f:Form) (i:Int) (c:List Int):Sp (pT f i () c) (FV f/\0<=i/\i<f.2.2.1.length/\bt c/\c.length<=91000000000000) (λr=>bt r.2/\r.2.length<=c.length+10920000000/\Ag (fm f) c r.2 [Kk (nth f.2.2.1 i (zb xk))]):=⟨λh=>by
 have h1:=h.1.2.2.2.1 _ (xj (d:=zb xk) h.2.1 h.2.2.1)
 obtain⟨⟨hw,ho⟩,X⟩:=h
 have h3:=hw.2.2.2.1.1
 have h4:=ho.2.2.2.1
 have h5:=hw.2.2.2.2.2.1
 have h6:=λ(x:Check) U=>(⟨(ho.2.2.2.2.2 x U).1,(ho.2.2.2.2.2 x U).2.1,(ho.2.2.2.2.2 x U).2.2.1,(hw.2.2.2.2.2.2 x U).2⟩:nL x.1/\0<=x.2.2.1/\x.2.2.1<3/\EW KK x.2.2.2.1/\EW KK x.2.2.2.2.1)
 have h7:=ho.2.2.1 _ (xj (d:=zb xk) X.1 X.2.1)
 have fin:∀ d e w,w=CO (nth f.2.2.1 i (zb xk)).2.1->Ap (H3 λn=>∃ x∈f.2.2.2.1,x.1=n) (c++bytesOf (cat (cat (cat [112,97,103,101,32] (nth f.2.2.1 i (zb xk)).1) w) [10])) d->Ap (H3 λn=>∃ x∈f.2.2.2.2.2.1,x.1=n) d e->Ag (fm f) c e [Kk (nth f.2.2.1 i (zb xk))]:=λd e w q k1 k2=>by
  subst q
  exact z0O (zop (N:=fm f) h7.1 h7.2 c) (z0O (z0N k1 λn h=>.inr (.inl h)) (z0N k2 λn h=>.inr (.inr (.inr h))))
 unfold pT
 refine T.qo ⟨X.1,X.2.1⟩ (T.wJ (by have:=h7.1.1; simp; omega) (T.qo ⟨X.1,X.2.1⟩ (T.za (by have:=h7.2.1; omega) λw hw => ?_)))
 have l1:(cat (cat (cat [112,97,103,101,32] (nth f.2.2.1 i (zb xk)).1) w) [10]).length<=100:=by rw[dQ,dQ,dQ]; have:=hw.1; have:=h7.1.1; have:=h7.2.1; simp; omega
 have l2:=l1
 rw[dQ,List.length_singleton]at l2
 refine T.wJ (by rw[dQ]at l2; omega) (T.wJ (by simp; omega) (T.zc (T.z8 (T.za (Z) λ⟨_,_,d⟩ V=>T.zc (T.z8 ?_)))))
 have V:d=_:=V
 subst V
 refine T.za ⟨rfl,h3,h4,Vx X.2.2.1 _,by show List.length (_++_)<=_; rw[List.length_append,eC]; omega⟩ λ⟨_,d⟩ V=>T.zc (T.z8 (T.za ⟨rfl,h5,h6,V.1,?_⟩ λ⟨_,e⟩ he=>T.zc (T.z8 (T.zd ⟨he.1,?_,fin d e w hw.2 V.2.2 he.2.2⟩))))
 all_goals
  have q1:=V.2.1
  simp only[List.length_append,eC]at q1
  try have q2:=he.2.1
  simp only at *
  omega⟩
instance (f:Form) (s:Int×Unit×List Int):Sp (sJ f f.1 (f.1.length:Int) s) (s.1=0/\f.1.length<=8200/\(∀ x∈f.1,nL x.1)/\bt s.2.2/\s.2.2.length<=100) (λr=>bt r.2/\r.2.length<=1000000/\r.2=s.2.2++bytesOf (tx (swl f.1))):=⟨λh=>by
 obtain⟨K,K0,K1,K2⟩:∃ K:Int->List Int,K 0=s.2.2/\(∀ i:Int,0<=i->i<f.1.length->K i++bytesOf (cat (cat [115,119,105,116,99,104,32] (nth f.1 i (zb ql)).1) (onS (nth f.1 i (zb ql)).2.1))=K (i+1))/\K f.1.length=s.2.2++bytesOf (tx (swl f.1)):=by
  refine⟨λi=>s.2.2++bytesOf (tx (swl (f.1.take i.toNat))),by simp[swl,tx,bytesOf],λi h0 h1 => ?_,qw⟩
  obtain⟨j,rfl,e⟩:=zjc (h.2.2.1 _ (xj (d:=zb ql) h0 h1)) (nth f.1 i (zb ql)).2.1
  dsimp only
  rw[cV f.1 i (zb ql) h0 h1,e]
  simp only[swl,qW,List.map_singleton,Ep,zfy,D6,qR]
 unfold sJ sP
 simp only[show ∀ b:Bool,(bif b then([32,111,110,10]:zn)else[32,111,102,102,10])=onS b from λ_=>rfl]
 have:∀ b,(onS b).length<=5:=qh
 have:([115,119,105,116,99,104,32]:zn).length=7:=rfl
 exact Oh f.1 (zb ql) (λ(i,_,_)=>i) _ (λ_=>True) (λ(i,_,c)=>0<=i/\i<=8200/\bt c/\(c.length:Int)<=s.2.2.length+40*i/\c=K i) h.2.2.1⟩
instance (f:Form) (s:Int×Unit×List Int):Sp (sK f f.2.1 (f.2.1.length:Int) s) (s.1=0/\f.2.1.length<=8200/\(∀ x∈f.2.1,nL x.1/\rg x.2.1/\rl x.2.1<=16)/\bt s.2.2/\s.2.2.length<=1000000) (λr=>bt r.2/\r.2.length<=10000000/\Ap (H3 λn=>∃ x∈f.2.1,x.1=n) s.2.2 r.2):=⟨λh=>by
 have hA:∀ x∈f.2.1,(nL x.1/\rg x.2.1/\rl x.2.1<=16)/\∀ e,cl e->Li (H3 λn=>∃ x∈f.2.1,x.1=n) (cat (cat (cat (cat [112,97,114,97,109,32] x.1) [32]) e) [10]):=λx U=>⟨h.2.2.1 x U,λr k=>zja (h.2.2.1 x U).1 ⟨x,U,rfl⟩ k⟩
 generalize (H3 λn=>∃ x∈f.2.1,x.1=n)=P at *
 have a0:=z0P P s.2.2
 have a1:=λ{c t} => @z6Y P s.2.2 c t
 unfold sK sQ
 exact Oh f.2.1 (zb qe) (λ(i,_,_)=>i) _ (λ_=>True) (λ(i,_,c)=>0<=i/\i<=8200/\bt c/\(c.length:Int)<=s.2.2.length+800*i/\Ap P s.2.2 c) hA⟩
instance (f:Form) (s:Int×Unit×List Int):Sp (sM f (f.2.2.1.length:Int) s) (s.1=0/\FV f/\bt s.2.2/\s.2.2.length<=10000000) (λr=>bt r.2/\r.2.length<=90000000000000/\Ag (fm f) s.2.2 r.2 (f.2.2.1.map Kk)):=⟨λh=>by
 obtain⟨K,K0,K1,K2⟩:∃ K:Int->List (zn×zn),Ag (fm f) s.2.2 s.2.2 (K 0)/\(∀ (i:Int) (c c':List Int),0<=i->i<f.2.2.1.length->Ag (fm f) s.2.2 c (K i)->Ag (fm f) c c' [Kk (nth f.2.2.1 i (zb xk))]->Ag (fm f) s.2.2 c' (K (i+1)))/\K f.2.2.1.length=f.2.2.1.map Kk:=by
  refine⟨λi=>(f.2.2.1.take i.toNat).map Kk,z0N (z0P (H3 (fm f)) _) λn h=>h,λi c c' h0 h1 k1 k2 => ?_,qw⟩
  have:=z0O k1 k2
  dsimp only
  rw[cV f.2.2.1 i (zb xk) h0 h1,qW]
  exact this
 have hw:=h.2.1.1.2.2.1.1
 unfold sM sR
 exact Oh f.2.2.1 (zb xk) (λ(i,_,_)=>i) (λ_=>True) (λ_=>True) (λ(i,_,c)=>0<=i/\i<=8200/\bt c/\(c.length:Int)<=s.2.2.length+10920000000*i/\Ag (fm f) s.2.2 c (K i)) (λ_ _=>trivial)⟩
instance (l:List cf) (s:Int×Unit×List Int):Sp (sO l (l.length:Int) s) (s.1=0/\l.length<=8200/\(∀ x∈l,nL x.1/\0<=x.2.1/\x.2.1<4/\wL x.2.2.1/\EW KK x.2.2.2.1/\EW KK x.2.2.2.2.1)/\bt s.2.2/\s.2.2.length<=90000000000000) (λr=>bt r.2/\r.2.length<=100000000000000/\Ap (H3 λn=>∃ x∈l,x.1=n) s.2.2 r.2):=⟨λh=>by
 have hA:∀ x∈l,(nL x.1/\0<=x.2.1/\x.2.1<4/\wL x.2.2.1/\EW KK x.2.2.2.1/\EW KK x.2.2.2.2.1)/\∀ t f r,t∈stg->f=CO x.2.2.1->Sd r->Li (H3 λn=>∃ x∈l,x.1=n) (cat (cat (cat (cat (cat [114,117,108,101,32] t) [32]) x.1) f) r):=λx U=>⟨h.2.2.1 x U,λt f r h1 X k=>X▸zjb h1 (h.2.2.1 x U).1 ⟨x,U,rfl⟩ (h.2.2.1 x U).2.2.2.1 k⟩
 generalize (H3 λn=>∃ x∈l,x.1=n)=P at *
 have a0:=z0P P s.2.2
 have a1:=λ{c t} => @z6Y P s.2.2 c t
 have c1:cl [61]:=qh
 have hn:∀ (l:List zn) (i:Int),(l.length=4/\(∀ s∈l,s.length<=8)/\l=stg)->0<=i->i<4->(nth l i (zb .str)).length<=8/\nth l i (zb .str)∈stg:=λl i h h0 h1=>⟨h.2.1 _ (xj h0 (Z)),h.2.2▸xj h0 (Z)⟩
 unfold sO
 refine cJ l (zb xl) (λ(i,_,_)=>i) _ (λ_=>True) (λ(i,_,c)=>0<=i/\i<=8200/\bt c/\(c.length:Int)<=s.2.2.length+1400000*i/\Ap P s.2.2 c) hA (by obtain⟨i,u,c⟩:=s; obtain rfl:i=0:=h.1; exact⟨rfl,qh,qh,h.2.2.2.1,by show(c.length:Int)<=c.length+_*0; omega,a0⟩) ?_ ?_
 ·rintro⟨j,u,c⟩ x ⟨j0,j1,J,hc,ha⟩ ⟨U,hy⟩ e i0 i1
  unfold lL
  dsimp only at *
  rw[e]
  have hw:q9 (j+1)=j+1:=qs (Z) (Z)
  have n1:=U.1.1
  have n2:=U.2.2.2.1.1
  have X:=h.2.1
  have h5:=h.2.2.2.2
  refine T.vD (decide_eq_true i1) (T.qo ⟨i0,i1⟩ (T.za trivial λv hv => ?_))
  have HP:=hn v x.2.1 hv U.2.1 U.2.2.1
  generalize nth v x.2.1 (zb .str)=t at *
  have l0:=HP.1
  have l1:(cat (cat (cat [114,117,108,101,32] t) [32]) x.1).length<=40:=by rw[dQ,dQ,dQ]; simp; omega
  refine T.zi ⟨U.2.1,Int.lt_of_lt_of_le U.2.2.1 (by have:=hv.1; omega)⟩ (T.wJ (by simp; omega) (T.wJ (by rw[dQ]; simp; omega) (T.wJ (by rw[dQ,dQ]; simp; omega) (T.za (Z) λw UQ=>T.wJ (by have:=UQ.1; omega) (T.za ⟨by rw[VE]; exact U.2.2.2.2.1,by rw[VE]; exact U.2.2.2.2.2,qh,c1⟩ λr hr => ?_)))))
  have l2:(cat (cat (cat (cat (cat [114,117,108,101,32] t) [32]) x.1) w) r).length<=1400000:=by rw[dQ,dQ]; have:=UQ.1; have:=hr.1; omega
  refine T.wJ (by have:=l2; rw[dQ]at this; omega) (T.zc (T.z8 (T.za (Z) λ⟨_,_,d⟩ hz=>T.zc (T.z8 (T.zd ?_)))))
  have hz:d=_:=hz
  subst hz
  rw[hw]
  dsimp only
  exact⟨rfl,⟨Z,Z,Vx J _,by rw[List.length_append,eC]; omega,a1 ha (hy t w r HP.2 UQ.2 hr.2)⟩,trivial⟩
 ·rintro⟨j,u,c⟩ ⟨j0,j1,J,hc,ha⟩ e _
  unfold lL
  dsimp only at *
  exact T.wz (decide_eq_false (Z)) (T.zc (T.z8 (T.zd ⟨J,by have:=h.2.1; have:=h.2.2.2.2; show c.length<=_; omega,ha⟩)))⟩
theorem cz0:zu 0 0 0 0:=⟨rfl,rfl,rfl⟩
instance (f:Form):Sp (o0 f) (FV f) (λr=>Tx f r):=⟨λh=>by
 have hv:=h
 have fin:=λ{b c d e} => @zgq f b c d e h.2.1
 have e:bt []:=λ_ h=>nomatch h
 obtain⟨⟨⟨a1,_⟩,⟨a2,b2⟩,_,_,⟨a5,b5⟩,_⟩,c1,c2,_,_,c5,_⟩:=h
 have h1:=λ(x:Param) U=>(⟨(c2 x U).1,(b2 x U).2.1,(c2 x U).2⟩:nL x.1/\rg x.2.1/\rl x.2.1<=16)
 have X:=λ(x:cf) U=>(⟨(c5 x U).1,(c5 x U).2.1,(c5 x U).2.2.1,(c5 x U).2.2.2.1,(b5 x U).2.2⟩:nL x.1/\0<=x.2.1/\x.2.1<4/\wL x.2.2.1/\EW KK x.2.2.2.1/\EW KK x.2.2.2.2.1)
 have h3:∀ l,bt l->∀ n∈l,(0:Int)<=n/\n<256:=λ_ h=>h
 clear b2 b5 c2 c5
 unfold o0 rE z5a oZ
 refine T.zi cz0 (T.zi rfl (T.za ⟨rfl,a1,c1,e,qh⟩ λ⟨_,b⟩ J=>T.zc (T.z8 (T.za ⟨rfl,a2,h1,J.1,J.2.1⟩ λ⟨_,c⟩ hc=>T.zc (T.z8 (T.za ⟨rfl,hv,hc.1,hc.2.1⟩ λ⟨_,d⟩ V=>T.zc (T.z8 (T.za ⟨rfl,a5,X,V.1,V.2.1⟩ λ⟨_,e⟩ he=>T.zc (T.z8 ?_)))))))))
 exact T.xc (T.zi ⟨h3 _ he.1,zN he.2.1 (qh)⟩ (T.zd (T.zd (fin (by have:=J.2.2; rw[List.nil_append]at this; exact this) hc.2.2 V.2.2 he.2.2))))⟩
instance (f:Form):Sp (ZE f) (FW 8200 f) (λr=>r=true->FV f):=⟨λh=>by
 have hk:FW KK f:=by obtain⟨⟨a1,b1⟩,⟨a2,b2⟩,⟨a3,b3⟩,⟨a4,b4⟩,⟨a5,b5⟩,a6,b6⟩:=h; unfold FW KK; exact⟨⟨Z,b1⟩,⟨Z,b2⟩,⟨Z,b3⟩,⟨Z,b4⟩,⟨Z,b5⟩,Z,b6⟩
 unfold ZE
 refine T.za hk λb J=>T.ze (λe=>T.za h λc hc=>T.ze (λe1=>T.za h λd V=>T.ze (λe2 => ?_) λ_=>T.zd nofun) λ_=>T.zd nofun) λ_=>T.zd nofun
 have hv:FV f:=⟨h,(J e).1,(J e).2.1,(J e).2.2,hc e1,V e2⟩
 exact T.za hv λ_ _=>T.zd λ_=>hv⟩
open T PL
def ss(l:List zn):Prop:=∀ s∈l,s.length<=KK
theorem z55{a:List zn}(h:ss a){s:zn}(hs:s.length<=KK):ss (a++[s]):=λx U=>by
 rcases zS.1 U with k | k
 ·exact h x k
 ·rw[zV.1 k]; exact hs
theorem Np:ss []:=λ_ h=>nomatch h
theorem FF{p:Prop} (h:p:=by
 intros
 repeat' (with_reducible first
  | refine T.zd ?_
  | refine T.ze (λ_ => ?_) (λ_ => ?_)
  | refine T.z8 ?_
  | refine T.zc ?_
  | refine T.uz ?_ ?_
  | refine T.qo ?_ ?_
  | refine T.vS ?_ ?_
  | refine T.wJ ?_ ?_
  | refine T.zi ?_ ?_
  | refine T.vX (λ_ _ => ?_) (λ_ _ => ?_)
  | refine T.za ?_ (λ_ _ => ?_)
  | refine T.vE ?_ (λ_ _ => ?_)
  | refine T.xc ?_
  | dsimp only)
 all_goals grind [xe,j6,dS,jv,vZ,jc,V4,VE,z55,Np,List.length_append,yg,EB,BE]):p:=h
theorem rY{σ ρ α:Type}(l:List α)(d:α)(ix:σ->Int)(A P:α->Prop)(hb:σ->Prop)(hA:∀ x∈l,A x){r:σ->T (σ⊕ρ)}{Q:ρ->Prop}{s:σ}(hs:ix s=0/\hb s:=by grind [Np])
  (step:∀ s x,hb s->A x->nth l (ix s) d=x->0<=ix s->ix s<l.length->(r s).wp λz=>match z with | .inl s'=>ix s'=ix s+1/\hb s'/\P x | .inr y=>Q y:=by
 intros
 repeat' (with_reducible first
  | refine T.zd ?_
  | refine T.ze (λ_ => ?_) (λ_ => ?_)
  | refine T.z8 ?_
  | refine T.zc ?_
  | refine T.uz ?_ ?_
  | refine T.qo ?_ ?_
  | refine T.vS ?_ ?_
  | refine T.wJ ?_ ?_
  | refine T.zi ?_ ?_
  | refine T.vX (λ_ _ => ?_) (λ_ _ => ?_)
  | refine T.za ?_ (λ_ _ => ?_)
  | refine T.vE ?_ (λ_ _ => ?_)
  | refine T.xc ?_
  | dsimp only)
 all_goals grind [xe,j6,dS,jv,vZ,jc,V4,VE,z55,Np,List.length_append,yg,EB,BE])
  (done:∀ s,hb s->ix s=l.length->(∀ x∈l,P x)->(r s).wp λz=>match z with | .inl _=>False | .inr y=>Q y:=by
 intros
 repeat' (with_reducible first
  | refine T.zd ?_
  | refine T.ze (λ_ => ?_) (λ_ => ?_)
  | refine T.z8 ?_
  | refine T.zc ?_
  | refine T.uz ?_ ?_
  | refine T.qo ?_ ?_
  | refine T.vS ?_ ?_
  | refine T.wJ ?_ ?_
  | refine T.zi ?_ ?_
  | refine T.vX (λ_ _ => ?_) (λ_ _ => ?_)
  | refine T.za ?_ (λ_ _ => ?_)
  | refine T.vE ?_ (λ_ _ => ?_)
  | refine T.xc ?_
  | dsimp only)
 all_goals grind):(T.loop r s).wp Q:=cJ l d ix A P hb hA hs step done
instance (f:Form) (s:Int×List zn):Sp (rJ f f.1 (f.1.length:Int) s) (s.1=0/\f.1.length<=8200/\(∀ x∈f.1,x.1.length<=KK)/\ss s.2/\s.2.length<=100000) (λr=>ss r/\r.length<=s.2.length+f.1.length):=⟨λh=>by
 unfold rJ rP
 exact rY f.1 (zb ql) (λ(i,_)=>i) _ (λ_=>True) (λ(i,c)=>0<=i/\i<=f.1.length/\ss c/\(c.length:Int)<=s.2.length+i) h.2.2.1⟩
instance (f:Form) (s:Int×List zn):Sp (rK f f.2.1 (f.2.1.length:Int) s) (s.1=0/\f.2.1.length<=8200/\(∀ x∈f.2.1,x.1.length<=KK)/\ss s.2/\s.2.length<=100000) (λr=>ss r/\r.length<=s.2.length+f.2.1.length):=⟨λh=>by
 unfold rK rQ
 exact rY f.2.1 (zb qe) (λ(i,_)=>i) _ (λ_=>True) (λ(i,c)=>0<=i/\i<=f.2.1.length/\ss c/\(c.length:Int)<=s.2.length+i) h.2.2.1⟩
instance (f:Form) (s:Int×List zn):Sp (rL f f.2.2.1 (f.2.2.1.length:Int) s) (s.1=0/\f.2.2.1.length<=8200/\(∀ x∈f.2.2.1,x.1.length<=KK)/\ss s.2/\s.2.length<=100000) (λr=>ss r/\r.length<=s.2.length+f.2.2.1.length):=⟨λh=>by
 unfold rL rR
 exact rY f.2.2.1 (zb xk) (λ(i,_)=>i) _ (λ_=>True) (λ(i,c)=>0<=i/\i<=f.2.2.1.length/\ss c/\(c.length:Int)<=s.2.length+i) h.2.2.1⟩
instance (f:Form) (s:Int×List zn):Sp (rM f f.2.2.2.1 (f.2.2.2.1.length:Int) s) (s.1=0/\f.2.2.2.1.length<=8200/\(∀ x∈f.2.2.2.1,x.1.length<=KK)/\ss s.2/\s.2.length<=100000) (λr=>ss r/\r.length<=s.2.length+f.2.2.2.1.length):=⟨λh=>by
 unfold rM rS
 exact rY f.2.2.2.1 (zb qq) (λ(i,_)=>i) _ (λ_=>True) (λ(i,c)=>0<=i/\i<=f.2.2.2.1.length/\ss c/\(c.length:Int)<=s.2.length+i) h.2.2.1⟩
instance (f:Form) (s:Int×List zn):Sp (rN f f.2.2.2.2.1 (f.2.2.2.2.1.length:Int) s) (s.1=0/\f.2.2.2.2.1.length<=8200/\(∀ x∈f.2.2.2.2.1,x.1.length<=KK)/\ss s.2/\s.2.length<=100000) (λr=>ss r/\r.length<=s.2.length+f.2.2.2.2.1.length):=⟨λh=>by
 unfold rN rT
 exact rY f.2.2.2.2.1 (zb xl) (λ(i,_)=>i) _ (λ_=>True) (λ(i,c)=>0<=i/\i<=f.2.2.2.2.1.length/\ss c/\(c.length:Int)<=s.2.length+i) h.2.2.1⟩
instance (l:List Check) (s:Int×List zn):Sp (rO l (l.length:Int) s) (s.1=0/\l.length<=8200/\(∀ x∈l,x.1.length<=KK)/\ss s.2/\s.2.length<=100000) (λr=>ss r/\r.length<=s.2.length+l.length):=⟨λh=>by
 unfold rO rU
 exact rY l (zb xi) (λ(i,_)=>i) _ (λ_=>True) (λ(i,c)=>0<=i/\i<=l.length/\ss c/\(c.length:Int)<=s.2.length+i) h.2.2.1⟩
instance (f:Form) (s:Int×List zn):Sp (fD f f.2.2.1 (f.2.2.1.length:Int) s) (s.1=0/\f.2.2.1.length<=8200/\(∀ x∈f.2.2.1,x.2.1.length<=KK)/\ss s.2/\s.2.length<=100000) (λr=>ss r/\r.length<=s.2.length+f.2.2.1.length):=⟨λh=>by
 unfold fD fG
 exact rY f.2.2.1 (zb xk) (λ(i,_)=>i) _ (λ_=>True) (λ(i,c)=>0<=i/\i<=f.2.2.1.length/\ss c/\(c.length:Int)<=s.2.length+i) h.2.2.1⟩
instance (f:Form) (s:Int×List zn):Sp (fE f f.2.2.2.2.1 (f.2.2.2.2.1.length:Int) s) (s.1=0/\f.2.2.2.2.1.length<=8200/\(∀ x∈f.2.2.2.2.1,x.2.2.1.length<=KK)/\ss s.2/\s.2.length<=100000) (λr=>ss r/\r.length<=s.2.length+f.2.2.2.2.1.length):=⟨λh=>by
 unfold fE fH
 exact rY f.2.2.2.2.1 (zb xl) (λ(i,_)=>i) _ (λ_=>True) (λ(i,c)=>0<=i/\i<=f.2.2.2.2.1.length/\ss c/\(c.length:Int)<=s.2.length+i) h.2.2.1⟩
instance (f:Form) (s:Int×List zn):Sp (om f f.2.2.2.1 (f.2.2.2.1.length:Int) s) (s.1=0/\f.2.2.2.1.length<=8200/\(∀ x∈f.2.2.2.1,x.1.length<=KK)/\ss s.2/\s.2.length<=100000) (λr=>ss r/\r.length<=s.2.length+f.2.2.2.1.length):=⟨λh=>by
 unfold om oq
 exact rY f.2.2.2.1 (zb qq) (λ(i,_)=>i) _ (λ_=>True) (λ(i,c)=>0<=i/\i<=f.2.2.2.1.length/\ss c/\(c.length:Int)<=s.2.length+i) h.2.2.1⟩
instance (f:Form):Sp (tn f) (FV f) (λr=>ss r/\r.length<=50000):=⟨λh=>by
 obtain⟨⟨⟨a1,b1⟩,⟨a2,b2⟩,⟨a3,b3⟩,⟨a4,b4⟩,⟨a5,b5⟩,a6,b6⟩,_⟩:=h
 have b2:=λx U=>(b2 x U).1
 have b3:=λx U=>(b3 x U).1
 have b5:=λx U=>(b5 x U).1
 have b6:=λx U=>(b6 x U).1
 unfold tn oZ
 exact FF⟩
instance (l:List zn):Sp (tp l) (ss l/\l.length<=50000) (λ_=>True):=⟨λh=>by
 unfold tp
 exact T.zi ⟨Z,λs hs=>zN (h.1 s hs) (by unfold KK; omega)⟩ (T.zd trivial)⟩
instance (a:Switch) (s:zn):Sp (u7 a s) True (λ_=>True):=⟨λ_=>by unfold u7; exact FF⟩
instance (s:zn) (f:Form):Sp (jY s f) (f.1.length<=8200) (λ_=>True):=⟨λh=>by unfold jY; exact FF⟩
instance (a:List zn) (c:zn->T Bool) (p:zn->Prop) (P:zn->Bool->Prop) [∀ x,Sp (c x) (p x) (P x)]:Sp (wW a c) (a.length<=1000000000000/\∀ x∈a,p x) (BE a P (zb .str)):=⟨ixq⟩
instance (a:List zn) (c:zn->T Bool) (p:zn->Prop) (P:zn->Bool->Prop) [∀ x,Sp (c x) (p x) (P x)]:Sp (kJ a c) (a.length<=1000000000000/\∀ x∈a,p x) (EB a P):=⟨λh=>cnq (Sp.sp h)⟩
instance (f:Form):Sp (fk f) (FV f) (λ_=>True):=⟨λh=>by
 obtain⟨⟨⟨a1,b1⟩,⟨a2,b2⟩,⟨a3,b3⟩,⟨a4,b4⟩,⟨a5,b5⟩,a6,b6⟩,_⟩:=h
 have b3:=λx U=>(b3 x U).2
 have b5:=λx U=>(b5 x U).2.1
 unfold fk oZ
 exact FF⟩
instance (a:List zn) (c:zn) (s:Int):Sp (gF a c (a.length:Int) s) (s=0/\a.length<=1000000) (λr=>match r with | .inl _=>True | .inr i=>0<=i/\i<a.length):=⟨λh=>by
 unfold gF gG
 exact rY a (zb .str) (λ(i:Int)=>i) (λ_=>True) (λ_=>True) (λ(i:Int)=>i<=1000000) (λ_ _=>trivial)⟩
instance (a:List zn) (c:zn):Sp (wE a c) (a.length<=1000000) (λr => -1<=r/\r<a.length):=⟨λh=>by unfold wE; exact FF⟩
instance (a:List zn) (c:zn):Sp (wN a c) (a.length<=1000000) (λ_=>True):=⟨λh=>by unfold wN; exact FF⟩
end Go.AM.Lf
