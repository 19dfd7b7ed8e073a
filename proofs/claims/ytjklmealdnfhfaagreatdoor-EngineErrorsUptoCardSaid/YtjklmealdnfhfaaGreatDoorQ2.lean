/-
  Plain laws of the lifted program, part 2.
-/
import Derived.Test.YtjklmealdnfhfaaGreatDoorLf1
import Derived.Test.YtjklmealdnfhfaaGreatDoorAmA
import Derived.Test.YtjklmealdnfhfaaGreatDoorAmD
import Derived.KernelRfl
import Derived.Test.YtjklmealdnfhfaaGreatDoorQ0
import Derived.Test.YtjklmealdnfhfaaGreatDoorQ1
set_option linter.unusedVariables false
open Nat renaming zero_le -> zA, le_trans -> Y, le_refl -> zE, le_of_eq -> zJ
open Int renaming le_refl -> X, lt_of_le_of_lt -> zF
open Bool renaming and_eq_true_iff -> V
open List renaming sizeOf_lt_of_mem -> zG, mem_of_getElem? -> zH, drop -> zK, take -> zL
open SizeOf renaming sizeOf -> zI
open Go.AM.T (UC Wo XS Xp bF j6 lV mn p9 qw se uo uy vA vG vK vX vY vk wM wm xi xn xz yw z8 za ze zh zi zj zt)
namespace Go.AM.Lf
open T PL
def zkL{α:Type}(d0:α)(e:α->T zx)(d:List α)(f:Int):(zx×Int)->T ((zx×Int)⊕(zx))
 | (c,a) =>
  .ite (decide (a<f))
   (oI a d <|
    T.bind (e (nth d a d0)) λb =>
    oK ([32]:zx) b <|
    oK c (cat ([32]:zx) b) <|
    .ret (.inl ((cat c (cat ([32]:zx) b)),(qo (a+(1:Int))))))
   (.ret (.inr c))
theorem yz(a b:zx):(cat a b).length=a.length+b.length:=List.length_append
theorem z8H{α:Type}(d0:α)(K:Nat)(e:α->T zx)(l:List α)(c:zx)(he:∀ x∈l,(e x).wp λr=>r.length<=K)(R:c.length+l.length*(K+1)<=1000000000000000)(hn:l.length<=1000000000) :
  (T.bind (T.loop (zkL d0 e l (l.length:Int)) (c,(0:Int))) λa=>oK a ([10]:zx) (.ret (cat a ([10]:zx)))).wp λr=>r.length<=c.length+l.length*(K+1)+1:=by
 refine xn (wm (P:=λz=>z.length<=c.length+l.length*(K+1)) ?_ λz hz=>vk (by show z.length+1<=_; omega) (zi (by rw[yz]; show z.length+1<=_; omega)))
 refine vX (σ:=zx×Int) (λz=>∃ k:Nat,z.2=(k:Int)/\k<=l.length/\z.1.length<=c.length+k*(K+1)) (λz=>((l.length:Int)-z.2).toNat) ⟨0,rfl,zA _,by show c.length<=_; omega⟩ ?_
 rintro⟨s,_⟩ ⟨k,rfl,hk,hs⟩
 unfold zkL
 refine zh (λJ => ?_) λJ=>zi ?_
 ·have J:=uE J
  have hw:qo ((k:Int)+1)=k+1:=qv (Z) (Z)
  have h1:(k+1)*(K+1)=k*(K+1)+(K+1):=Nat.succ_mul ..
  have M:(k+1)*(K+1)<=l.length*(K+1):=Nat.mul_le_mul_right _ (Z)
  have hs:s.length<=c.length+k*(K+1):=hs
  refine qw ⟨Z,J⟩ (xn (wm (he _ (xw (Z) J)) λb I=>vk (by show 1+b.length<=_; omega) (vk (by rw[yz]; show s.length+(1+b.length)<=_; omega) (zi ?_))))
  rw[hw]
  exact⟨⟨k+1,rfl,Z,by show(cat s (cat [32] b)).length<=_; rw[yz,yz]; show s.length+(1+b.length)<=_; omega⟩,by simp only; omega⟩
 ·have J:=gZ J
  have e:k=l.length:=Z
  subst e
  exact hs
instance (a:Bool):Sp (dH a) True (λr=>r.length<=1):=⟨λ_=>by unfold dH; exact zh (λ_=>zi (zE _)) λ_=>zi (zE _)⟩
instance (a:Int):Sp (lQ a) (-1<=a/\a<1000000000000000000) (λr=>r.length<=18):=⟨λh=>by
 unfold lQ
 exact zh (λ_=>zi (by show 1<=18; decide)) λe=>z8 ⟨by have:=gZ e; omega,h.2⟩ λb I=>zi I⟩
instance (p:qk):Sp (lR p) (Pn p) (λr=>r.length<=68051):=⟨λh=>by
 have M:rl p.2.2.1<=1700:=h.2
 unfold lR
 exact zh (λ_=>zi (by show 1<=68051; decide)) λ_=>zh (λ_=>z8 ⟨h.1,Z⟩ λb I=>vk (by show b.length+1<=_; omega) (zi (by rw[yz]; show b.length+1<=_; omega))) λ_=>z8 ⟨h.1,Z⟩ λb I=>zi (by show b.length<=_; omega)⟩
instance (l:List Bool) (c:zx):Sp (fR c l λa=>dH a) (l.length<=1000000000/\c.length<=10) (λr=>r.length<=c.length+l.length*2+1):=⟨λh =>
 z8H (zb .bool) 1 _ l c (λ_ _=>Sp.sp trivial) (Z) h.1⟩
instance (l:List Int) (c:zx):Sp (th c l λa=>lQ a) ((l.length<=1000000000/\ou l)/\c.length<=10) (λr=>r.length<=c.length+l.length*19+1):=⟨λh =>
 z8H (zb (.int .i64)) 18 _ l c (λx N=>Sp.sp (h.1.2 x N)) (Z) h.1.1⟩
instance (l:List Lf.Rat) (c:zx):Sp (mD c l λa=>gp a) (rs l/\c.length<=10) (λr=>r.length<=c.length+l.length*68051+1):=⟨λh =>
 z8H (zb zl) 68050 _ l c (λx N=>vA (s:=inferInstance) ⟨(h.1.2 x N).1,by have:=(h.1.2 x N).2; omega⟩ λr hr=>by have:=(h.1.2 x N).2; omega) (by have:=h.1.1; omega) h.1.1⟩
instance (l:List qk) (c:zx):Sp (fS c l λa=>lR a) (Ps l/\c.length<=10) (λr=>r.length<=c.length+l.length*68052+1):=⟨λh =>
 z8H (zb zm) 68051 _ l c (λx N=>Sp.sp (h.1.2 x N)) (by have:=h.1.1; omega) h.1.1⟩
instance (d:qe):Sp (cZ d) (Dw d) (λr=>r.length<=68052*(d.1.length+d.2.2.1.length+d.2.2.2.2.1.length)+19*(d.2.1.length+d.2.2.2.1.length+d.2.2.2.2.2.1.length)+100):=⟨λ⟨h1,M,h3,h4,h5,h6,h7⟩=>by
 have k1:=h1.1
 have k3:=h3.1
 have k5:=h5.1
 unfold cZ
 refine z8 ⟨h1,xm⟩ λa ha=>z8 ⟨M,xm⟩ λb I=>vk ?_ (z8 ⟨h3,xm⟩ λc hc=>vk ?_ (z8 ⟨⟨h4,h7⟩,xm⟩ λe he=>vk ?_ (z8 ⟨h5,xm⟩ λg hg=>vk ?_ (z8 ⟨h6,xm⟩ λk hk=>vk ?_ (vk ?_ (zi ?_))))))
 all_goals
  simp only[yz,List.length_cons,List.length_nil]at *
  omega⟩
theorem Dx.len{f:Form}{d:qe}(h:Dx f d):68052*(d.1.length+d.2.2.1.length+d.2.2.2.2.1.length)+19*(d.2.1.length+d.2.2.2.1.length+d.2.2.2.2.2.1.length)+100<=1000000000:=by
 obtain⟨-,hV,f1,f2,l1,l2,l3,l4,l5,l6⟩:=h
 have n1:=hV.1.1.1
 have n2:=hV.1.2.1.1
 omega
open T PL
theorem Jo{a b:zx}:wK a b=decide (a=b):=by unfold wK; rw[Bool.eq_iff_iff]; simp
def isD(b:UInt8):Bool:=decide (48<=b.toNat/\b.toNat<=57)
def fK(s:zx):Bool:=s.all isD
theorem MR{b:UInt8}:isD b=true↔48<=b.toNat/\b.toNat<=57:=by unfold isD; simp
theorem E4(s t:zx):fK (s++t)=(fK s&&fK t):=by unfold fK; rw[List.all_append]
theorem XJ(b:UInt8)(t:zx):fK (b::t)=(isD b&&fK t):=rfl
theorem zaV{s:zx}(h:fK s=true):dgV s<10 ^ s.length:=by
 have key:∀ (s:zx) (n k:Nat),fK s=true->n<10 ^ k->s.foldl (λn b=>n*10+(b.toNat-48)) n<10 ^ (k+s.length):=by
  intro s
  induction s with
  | nil=>simp
  | cons b s ih =>
   intro n k J hn
   simp only[fK,List.all_cons,Bool.and_eq_true]at J
   have I:=MR.1 J.1
   have:=ih (n*10+(b.toNat-48)) (k+1) J.2 (by rw[Nat.pow_succ]; omega)
   rw[List.foldl_cons,List.length_cons]
   rwa [show k+(s.length+1)=k+1+s.length by omega]
 have:=key s 0 0 h (qz)
 simpa[dgV]using this
theorem KV(f:Nat->Bool):∀ (n k i:Nat),i<n->Wt .bool (mL .bool n) (Rd (e:=.bool) f n k) i=f (k+i)
 | 0,_,_,h=>Z
 | n+1,k,0,_=>by
  rfl
 | n+1,k,i+1,h=>by
  show Wt .bool (mL .bool n) (Rd (e:=.bool) f n (k+1)) i=_
  rw[KV f n (k+1) i (Z)]
  grind
abbrev dE:zx:=[48,49,50,51,52,53,54,55,56,57]
theorem z5g:∀ c:Fin 256,dE.contains (UInt8.ofNat c.val)=decide (48<=c.val/\c.val<=57):=by decide +kernel
theorem Ir{s:zx}{k:Nat}(h:k<s.length):uq s (k:Int)=((s[k]).toNat:Int):=by
 unfold uq; simp[h]
theorem Iz(b:UInt8)(s:zx):fG 1 (((b::s).length:Nat):Int) (b::s)=s:=by unfold fG; simp
theorem Ro(s:zx)(b:UInt8):fG 0 ((s.length:Nat):Int) (s++[b])=s:=by unfold fG; simp
theorem VI(b:UInt8):(vf (lE dE) (b.toNat:Int)).run=some (isD b):=by
 have I:b.toNat<256:=b.toNat_lt
 unfold vf
 rw[xi ⟨Z,Z⟩,xz]
 unfold lE
 rw[Int.toNat_natCast,KV _ 256 0 _ I,Nat.zero_add]
 exact congrArg some (z5g ⟨b.toNat,I⟩)
theorem Hf(s:zx)(hs:s.length<=1000000000):∃ r,(jt s (lE dE)).run=some r/\fK r=fK s/\(fK r=true->r=[])/\r.length<=s.length:=by
 have:=T.ct (r:=uz (lE dE)) (λt:zx=>fK t=fK s/\t.length<=s.length) (λt=>t.length) (λr:zx=>fK r=fK s/\(fK r=true->r=[])/\r.length<=s.length) (λt ht => ?_) (s:=s) ⟨rfl,zE _⟩
 ·obtain⟨r,h1,M⟩:=this
  have h1:(jF (lE dE) s).run=some r:=h1
  unfold jt
  rw[zt h1]
  exact⟨r,rfl,M⟩
 ·rcases List.eq_nil_or_concat t with rfl | ⟨l,b,rfl⟩
  ·right
   refine⟨[],?_,ht.1,λ_=>rfl,qz⟩
   rfl
  ·rw[List.concat_eq_append]at ht ⊢
   have R:(l++[b]).length=l.length+1:=qz
   have e1:qo (((l++[b]).length:Int)-1)=(l.length:Int):=by rw[R,qv (Z) (Z)]; omega
   have e2:uq (l++[b]) (l.length:Int)=(b.toNat:Int):=by rw[Ir (qz)]; simp
   unfold uz
   rw[vG (decide_eq_true (qz)),e1,vK _ (Z) (xy),e2,zt (VI b)]
   cases I:isD b with
   | false =>
    right
    refine⟨_,by rfl,ht.1,λh => ?_,ht.2⟩
    rw[E4,XJ,I]at h; simp at h
   | true =>
    left
    refine⟨l,by rw[j6 (by rfl),Xp _ (Z) (Z) (xy),xz,Ro],⟨?_,Z⟩,Z⟩
    rw[<- ht.1,E4,XJ,I]; simp[fK]
theorem D9(s:zx)(hs:s.length<=1000000000):∃ r,(jL s (lE dE)).run=some r/\fK r=fK s/\(fK r=true->r=[]):=by
 have:=T.ct (r:=uV (lE dE)) (λt:zx=>fK t=fK s) (λt=>t.length) (λr:zx=>fK r=fK s/\(fK r=true->r=[])) (λt ht => ?_) (s:=s) rfl
 ·obtain⟨r,h1,M⟩:=this
  have h1:(ki (lE dE) s).run=some r:=h1
  unfold jL
  rw[zt h1]
  exact⟨r,rfl,M⟩
 ·cases t with
  | nil =>
   right
   refine⟨[],?_,ht,λ_=>rfl⟩
   rfl
  | cons b l =>
   have e2:uq (b::l) 0=(b.toNat:Int):=rfl
   unfold uV
   rw[vG (decide_eq_true (qz)),vK _ (Z) (qz),e2,zt (VI b)]
   cases I:isD b with
   | false =>
    right
    refine⟨_,by rfl,ht,λh => ?_⟩
    rw[XJ,I]at h; simp at h
   | true =>
    left
    refine⟨l,by rw[j6 (by rfl),Xp _ (Z) (xy) (Z),xz,Iz],?_,qz⟩
    rw[<- ht,XJ,I]; rfl
theorem BU:∀ (j:Nat) b,dE[j]? = some b->b.toNat<128:=by
 intro j b h
 have:b∈dE:=zH h
 simp at this
 rcases this with rfl | rfl | rfl | rfl | rfl | rfl | rfl | rfl | rfl | rfl<;>decide
theorem K7(s:zx)(hs:s.length<=1000000000)(hn:s≠[]):∃ r,(ca s dE).run=some r/\wK r []=fK s:=by
 obtain⟨r1,a1,a2,a3,a4⟩:=Hf s hs
 obtain⟨r,b1,b2,b3⟩:=D9 r1 (Z)
 refine⟨r,?_,?_⟩
 ·have hm:(strings_makeASCIISet dE).run=some (lE dE,true):=by
   unfold strings_makeASCIISet
   rw[xi ⟨xm,BU⟩,xz]
  have e1:wK s []=false:=by rw[Jo]; simpa using hn
  unfold ca
  rw[j6 (by rw[e1]; rfl),xi (λh=>xy),j6 (by rfl),zt hm,UC,zt a1,zt b1,xz]
 ·rw[Jo]
  rw[a2]at b2
  cases h:fK s with
  | true=>grind
  | false =>
   rw[h]at b2
   refine decide_eq_false λz => ?_
   subst z; cases b2
instance (b:Bool):Sp (ur b) True (λr=>r.elim (λ_=>b=true) λ_=>b=false):=⟨λ_=>by unfold ur; exact zh (λe=>zi (by simpa using e)) λe=>zi (by simpa using e)⟩
instance (a:zx):Sp (mz a) (a.length<=1000000000) (λr=>r.elim (λn=>0<=n/\n<1000000000000000000) λ_=>True):=⟨λh=>by
 unfold mz
 refine xn (wm (P:=λz:Unit⊕Unit=>z.elim (λ_=>a≠[]/\a.length<=18/\fK a=true) λ_=>True) (zh (λe=>zh (λe2 => ?_) λ_=>z8 trivial λz hz => ?_) λ_=>z8 trivial λz hz => ?_) λz hz => ?_)
 ·have e1:a≠[]:=by rw[Jo]at e; simpa using e
  obtain⟨r,h1,M⟩:=K7 a h e1
  refine xn (bF h1 (z8 trivial λz hz => ?_))
  rcases z with z | z
  ·have e2:=uE e2
   exact zi ⟨e1,Z,M.symm.trans hz⟩
  ·exact zi trivial
 ·rcases z with z | z
  ·cases hz
  ·exact zi trivial
 ·rcases z with z | z
  ·cases hz
  ·exact zi trivial
 ·rcases z with z | z
  ·obtain⟨h1,M,h3⟩:=hz
   have h4:=zaV h3
   have h5:10 ^ a.length<=10 ^ 18:=Nat.pow_le_pow_right (xm) M
   unfold strconv_Atoi
   refine xn (zj ⟨⟨h1,M⟩,λb I=>MR.1 (List.all_eq_true.1 h3 b I)⟩ (zi (z8 trivial λz hz => ?_)))
   rcases z with z | z
   ·exact zi ⟨by show(0:Int)<=(dgV a:Nat); omega,by show((dgV a:Nat):Int)<_; omega⟩
   ·exact zi trivial
  ·exact zi trivial⟩
open T PL
def z9g{α:Type}(k:Nat)(e:zx->T (α⊕Unit))(d:List zx)(f:Int):(Int×List α)->T ((Int×List α)⊕(List α⊕(Unit×List α)))
 | (b,a) =>
  .ite (decide (b<f))
   (oI b d <|
    T.bind (e (nth d b (zb .str))) <|
     Sum.elim (λc =>
      oA a k <|
      oM (a.length+(1:Nat)) (a++([c]:List α)).length <|
      .ret (.inl ((qo (b+(1:Int))),(a++([c]:List α)))))
     (λe =>
      U a <|
      .ret (.inr (.inr (e,a)))))
   (oC a <|
    U a <|
    .ret (.inr (.inl a)))
theorem MD{α:Type}(k:Nat)(hk:k<=64)(e:zx->T (α⊕Unit))(l:List zx)(P:α->Prop)(he:∀ s∈l,(e s).wp λr=>r.elim P λ_=>True)(hn:l.length<=1000000000) :
  (oZ (T.bind (T.loop (z9g k e l (l.length:Int)) ((0:Int),([]:List α))) (Sum.elim (λa=>oC a (U a (.ret (.inl a)))) λz=>.ret (.inr z.1))):T (List α⊕Unit)).wp λr=>r.elim (λa=>a.length<=1000000000/\∀ x∈a,P x) λ_=>True:=by
 refine zj ⟨rfl,rfl,rfl⟩ (zj rfl (xn (wm (P:=λz:List α⊕(Unit×List α)=>z.elim (λa=>a.length<=1000000000/\∀ x∈a,P x) λ_=>True) ?_ λz hz => ?_)))
 ·refine vX (σ:=Int×List α) (λz=>0<=z.1/\z.1<=l.length/\(z.2.length:Int)=z.1/\∀ x∈z.2,P x) (λz=>((l.length:Int)-z.1).toNat) ⟨X _,by show(0:Int)<=_; omega,rfl,nofun⟩ ?_
  rintro⟨i,a⟩ ⟨i0,i1,ha,hp⟩
  dsimp only at i0 i1 ha hp
  unfold z9g
  refine zh (λJ => ?_) λJ=>ze (za (zi ⟨Z,hp⟩))
  have J:=uE J
  have hw:qo (i+1)=i+1:=qv (Z) (Z)
  refine qw ⟨i0,J⟩ (xn (wm (he _ (xw i0 J)) λz hz => ?_))
  rcases z with c | c
  ·have hm:(a.length+1)*k<=(a.length+1)*64:=Nat.mul_le_mul_left _ hk
   refine vY (Z) (uo (Je _ _).symm (zi ?_))
   rw[hw]
   exact⟨⟨by show 0<=i+1; omega,by show i+1<=_; omega,by show((a++[c]).length:Int)=i+1; rw[Je]; omega,yR hp hz⟩,by simp only; omega⟩
  ·exact za (zi trivial)
 ·rcases z with z | z
  ·exact ze (za (zi hz))
  ·exact zi trivial
def bL(l:List zx):Prop:=l.length<=1000000000/\∀ s∈l,s.length<=1000000000
instance (s:zx):Sp (da s) True (λr=>r.elim (λa=>rg a/\rl a<=1700) λ_=>True):=⟨λ_=>by
 unfold da
 refine z8 trivial λa ha=>z8 trivial λz _ => ?_
 rcases z with z | z
 ·exact zi ha
 ·exact zi trivial⟩
instance (s:zx):Sp (mA s) True (λr=>r.elim (λ_=>True) λ_=>True):=⟨λ_=>by
 unfold mA
 refine zh (λ_=>z8 trivial λz _ => ?_) λ_=>z8 trivial λz _ => ?_
 ·rcases z with z | z<;>exact zi trivial
 ·rcases z with z | z<;>exact zi trivial⟩
instance (s:zx):Sp (mB s) (s.length<=1000000000) (λr=>r.elim (λn => -1<=n/\n<1000000000000000000) λ_=>True):=⟨λh=>by
 unfold mB
 refine zh (λ_=>zi (by show(-1:Int) <= -1/\(-1:Int)<1000000000000000000; decide)) λ_=>z8 h λz hz => ?_
 rcases z with z | z
 ·exact zi ⟨by have:0<=z:=hz.1; show -1<=z; omega,hz.2⟩
 ·exact zi trivial⟩
instance (a b:zx):Sp (strings_CutSuffix a b) (a.length<=1000000000/\b.length<=1000000000) (λ_=>True):=⟨λ⟨h,k⟩=>by
 have hw:qo ((a.length:Int)-b.length)=a.length-b.length:=qv (Z) (Z)
 unfold strings_CutSuffix jS jU
 rw[hw]
 refine xn (xn (zj (λe => ?_) (zi (zh (λ_=>zi (zi trivial)) λe=>zj ?_ (zi (zi trivial))))))
 ·have:=uE e
  exact⟨Z,Z,Z⟩
 ·have:(b.length:Int)<=a.length:=by
   by_cases q:(b.length:Int)<=a.length
   ·exact q
   ·rw[decide_eq_false q]at e; cases e
  exact⟨Z,Z,Z⟩⟩
instance (s:zx):Sp (mC s) (s.length<=1000000000) (λr=>r.elim Pn λ_=>True):=⟨λh=>by
 unfold mC
 refine zh (λ_=>z8 ⟨xm,xm⟩ λa ha=>zi ⟨ha.1,?_⟩) λ_=>z8 ⟨h,xm⟩ λx _=>z8 trivial λz hz => ?_
 ·have M:rl a<=2:=ha.2
  exact Y M (xm)
 ·rcases z with z | z
  ·exact zi hz
  ·exact zi trivial⟩
instance (b:List zx) (u:Unit):Sp (uK b u) (bL b) (λr=>r.elim rs λ_=>True):=⟨λh=>MD 56 (xm) _ b _ (λ_ _=>Sp.sp trivial) h.1⟩
instance (b:List zx) (u:Unit):Sp (uL b u) (bL b) (λr=>r.elim (λa=>a.length<=1000000000/\∀ x∈a,True) λ_=>True):=⟨λh=>MD 1 (xm) _ b (λ_=>True) (λ_ _=>Sp.sp trivial) h.1⟩
instance (b:List zx) (u:Unit):Sp (kQ b u) (bL b) (λr=>r.elim (λa=>a.length<=1000000000/\ou a) λ_=>True):=⟨λh=>MD 8 (xm) _ b _ (λs hs=>Sp.sp (h.2 s hs)) h.1⟩
instance (b:List zx) (u:Unit):Sp (jg b u) (bL b) (λr=>r.elim Ps λ_=>True):=⟨λh=>MD 64 (xm) _ b _ (λs hs=>Sp.sp (h.2 s hs)) h.1⟩
instance (a:gB):Sp (hZ a) (a.1.length<=1000000000) (λr=>r.elim (λz=>z.1.length<=1000000000/\z.2.1.length<=1000000000/\z.1.length<1000000000+1) λ_=>True):=⟨λh=>by
 unfold hZ
 refine z8 h λ⟨b,c,d⟩ hz=>z8 trivial λz _ => ?_
 have hz:b.length+c.length<=a.1.length:=hz
 rcases z with z | z
 ·exact zi ⟨by show b.length<=_; omega,by show c.length<=_; omega,by show b.length<_; omega⟩
 ·exact zi trivial⟩
instance (w:zx) (a:gB):Sp (wO w a) (a.1.length<=1000000000) (λr=>r.elim (λz=>bL z.1/\z.2.1.length<=1000000000) λ_=>True):=⟨λh=>by
 unfold wO
 refine z8 h λz hz => ?_
 rcases z with⟨c,b⟩ | z
 ·obtain⟨h1,M,-⟩:=hz
  have h1:c.length<=1000000000:=h1
  have M:b.1.length<=1000000000:=M
  have h3:=z2Z 32 c
  have h4:(l9 32 c).length<=tx (l9 32 c)/\(l9 32 c=[]->tx (l9 32 c)=0):=by
   generalize l9 32 c=l
   refine⟨?_,λe=>by rw[e]; rfl⟩
   induction l with
   | nil=>exact zA _
   | cons a l ih=>unfold tx at *; simp; omega
  have h5:1<=(l9 32 c).length:=by
   rcases Nat.eq_zero_or_pos (l9 32 c).length with e | e
   ·have:=h4.2 (List.eq_nil_of_length_eq_zero e); omega
   ·exact e
  unfold strings_Split
  refine xn (zj ⟨Z,rfl⟩ (zi (qw ⟨xm,by show(0:Int)<(l9 32 c).length; omega⟩ (z8 trivial λz _ => ?_))))
  rcases z with z | z
  ·refine zj ⟨xm,by show(1:Int)<=(l9 32 c).length; omega,X _⟩ (zi ⟨⟨?_,λs hs => ?_⟩,M⟩)
   ·show(zK _ (zL _ (l9 32 c))).length<=_
    rw[List.length_drop,List.length_take]
    show min _ _-1<=_
    omega
   ·exact Y (h3.2 s (List.mem_of_mem_take (List.mem_of_mem_drop hs))) h1
  ·exact zi trivial
 ·exact zi trivial⟩
theorem cu0:zu 0 0 0 0:=⟨rfl,rfl,rfl⟩
instance (a:Int):Sp (fO a) True (λr=>r=a):=⟨λ_=>by unfold fO; exact uy rfl (zi rfl)⟩
instance (u:Unit) (a:Int):Sp (wC u a) True (λr=>r=2):=⟨λ_=>by unfold wC; exact wM rfl (uy rfl (zi rfl))⟩
theorem J4{p:Prop} (h:p:=by
 refine z8 trivial λ_ e => ?_
 subst e
 repeat' (with_reducible first | refine za ?_ | refine ze ?_ | refine zj cu0 ?_ | refine zj (Eq.refl 0) ?_)
 exact zi (nz (a:=2) (xm))):p:=h
abbrev R8(r:Unit×Int×List Lf.Rat×List Bool×List Lf.Rat×List Int×List qk×List Bool):qe:=(r.2.2.1,r.2.2.2.1,r.2.2.2.2.1,r.2.2.2.2.2.1,r.2.2.2.2.2.2.1,r.2.2.2.2.2.2.2,())
instance (s:zx):Sp (ov s) (s.length<=1000000000) (λr=>r.2.1=0->Dw (R8 r)):=⟨λhs=>by
 unfold ov
 refine z8 hs λz hz => ?_
 rcases z with⟨k,l⟩ | ⟨y,l⟩
 rotate_left
 ·exact J4
 refine z8 hz.1 λz h1 => ?_
 rcases z with a | z
 rotate_left
 ·exact J4
 have R:l.1.length<=1000000000:=hz.2
 clear hz
 refine z8 R λz hz => ?_
 rcases z with⟨k,l⟩ | ⟨y,l⟩
 rotate_left
 ·exact J4
 refine z8 hz.1 λz M => ?_
 rcases z with b | z
 rotate_left
 ·exact J4
 have R:l.1.length<=1000000000:=hz.2
 clear hz
 refine z8 R λz hz => ?_
 rcases z with⟨k,l⟩ | ⟨y,l⟩
 rotate_left
 ·exact J4
 refine z8 hz.1 λz h3 => ?_
 rcases z with c | z
 rotate_left
 ·exact J4
 have R:l.1.length<=1000000000:=hz.2
 clear hz
 refine z8 R λz hz => ?_
 rcases z with⟨k,l⟩ | ⟨y,l⟩
 rotate_left
 ·exact J4
 refine z8 hz.1 λz h4 => ?_
 rcases z with d | z
 rotate_left
 ·exact J4
 have R:l.1.length<=1000000000:=hz.2
 clear hz
 refine z8 R λz hz => ?_
 rcases z with⟨k,l⟩ | ⟨y,l⟩
 rotate_left
 ·exact J4
 refine z8 hz.1 λz h5 => ?_
 rcases z with e | z
 rotate_left
 ·exact J4
 have R:l.1.length<=1000000000:=hz.2
 clear hz
 refine z8 R λz hz => ?_
 rcases z with⟨k,l⟩ | ⟨y,l⟩
 rotate_left
 ·exact J4
 refine z8 hz.1 λz h6 => ?_
 rcases z with f | z
 rotate_left
 ·exact J4
 dsimp only[Sum.elim_inl]
 rw[cE,cE,cE,cE,cE,cE]
 have hD:Dw (a,b,c,d,e,f,()):=⟨h1,M.1,h3,h4.1,h5,h6.1,h4.2⟩
 refine z8V (z8 hD λv _=>z8 trivial λz _ => ?_)
 rcases z with z | z
 rotate_left
 ·exact J4
 refine z8 trivial λw _ => ?_
 repeat' (with_reducible first | refine za ?_ | refine ze ?_)
 exact zi λ_=>hD⟩
instance (f:Form) (s:zx):Sp (sA f s) (FW 8200 f/\s.length<=1000000000) (λr=>r.2=0->Dx f r.1):=⟨λ⟨hF,hs⟩=>by
 unfold sA
 refine z8 hs λ⟨l,g,a,b,c,d,e,h⟩ hz => ?_
 dsimp only
 rw[cE,cE,cE,cE,cE,cE]
 refine zh (λq=>zi (nz (by simpa using q))) λq=>z8V (z8 ⟨hF,hz (by simpa using q)⟩ λi hi=>zh (λ_=>zi (nz (a:=1) (xm))) λq2=>z8V (zi λ_=>hi (by simpa using q2)))⟩
open T PL
def vh(v:wj):Prop:=v.1.length<=20000/\v.2.1.length<=20000/\rs v.2.2.1
instance (f:Form) (l:List Lf.Rat):Sp (pX f l) (FV f/\rs l) (λr=>vh r):=⟨λh=>by
 obtain⟨h1,_⟩:=FV.fe h.1
 have M:l.length<=1000000000:=h.2.1
 unfold pX vh
 exact goe⟩
instance (d:zx) (a:wj) (g:List Lf.Rat):Sp (VB d a g) (vh a/\rs g) (λr=>rg r.1/\rl r.1<=1700):=⟨λ⟨⟨h1,M,h3⟩,hg⟩=>by
 unfold VB
 exact z8 (Z) λb I=>zh (λ_=>z8 hg λe he=>zi ⟨he.1,he.2.1⟩) λ_=>z8 (Z) λc hc=>zh (λ_=>zi ⟨Xq.1,Y (zJ Xq.2) (xm)⟩) λ_=>z8 h3 λf hf=>zi ⟨hf.1,hf.2.1⟩⟩
instance (e:Expr) (v:wj) (l:List Lf.Rat):Sp (Zi e v l) (EK e/\vh v/\rs l) (λr=>rg r.1/\rl r.1<=440000):=⟨λh=>by
 obtain⟨⟨n,hn,he⟩,hv,R⟩:=h
 unfold Zi
 refine wm (P:=λr=>∀ n,EO n e->rg r.1/\rl r.1<=1710*n) ?_ λr hr=>by have:=hr n he; exact⟨this.1,Z⟩
 refine se (x:=(e,v,l)) (λ(e,v,l)=>(∃ n,n<=256/\EO n e)/\vh v/\rs l) (λ(e,_)=>zI e) (λ(e,_) (r:Lf.Rat×Int)=>∀ n,EO n e->rg r.1/\rl r.1<=1710*n) ?_ ?_ ⟨⟨n,hn,he⟩,hv,R⟩
 ·intro g g' hg x
  unfold kZ
  exact mono
 ·intro⟨e,v,l⟩ ⟨⟨n,hn,he⟩,hv,R⟩ g hg
  have z:rg (false,[],[],())/\rl (false,[],[],())<=0:=⟨Xq.1,zJ Xq.2⟩
  have hq:∀ {n'},EO n' e->n'=n:=λh=>h.uniq he
  suffices (kZ (λy0 y1 y2=>g (y0,y1,y2)) e v l).wp λr=>rg r.1/\rl r.1<=1710*n from wm this λr hr n' h=>by rw[hq h]; exact hr
  clear hq
  cases he with
  | num h1 M =>
   unfold kZ
   simp only[Expr.kids,Expr.kind,Expr.num,Expr.name]
   exact uy rfl Ek
  | nam h1 =>
   unfold kZ
   simp only[Expr.kids,Expr.kind,Expr.num,Expr.name]
   exact wM rfl (uy rfl Ek)
  | @neg m s i a h1 =>
   have ha:Sp (g (a,v,l)) True (λr=>rg r.1/\rl r.1<=1710*i):=⟨λ_=>wm (hg (a,v,l) ⟨⟨i,Z,h1⟩,hv,R⟩ (by simp<;>omega)) λr hr=>hr i h1⟩
   unfold kZ
   simp only[Expr.kids,Expr.kind,Expr.num,Expr.name]
   clear hg
   refine wM rfl (wM rfl (qw ⟨Z,qz⟩ ?_))
   rw[show nth [a] 0 (zb .expr)=a from rfl]
   refine z8 trivial λr hr=>zh (λ_=>zi ?_) λ_=>uy rfl ?_
   ·grind
   ·exact Ek
  | @bin k m s i j a b h1 M h3 h4 =>
   have ha:Sp (g (a,v,l)) True (λr=>rg r.1/\rl r.1<=1710*i):=⟨λ_=>wm (hg (a,v,l) ⟨⟨i,Z,h3⟩,hv,R⟩ (by simp<;>omega)) λr hr=>hr i h3⟩
   have I:Sp (g (b,v,l)) True (λr=>rg r.1/\rl r.1<=1710*j):=⟨λ_=>wm (hg (b,v,l) ⟨⟨j,Z,h4⟩,hv,R⟩ (by simp<;>omega)) λr hr=>hr j h4⟩
   unfold kZ
   simp only[Expr.kids,Expr.kind,Expr.num,Expr.name]
   clear hg
   refine wM (xy) (wM (xy) (qw ⟨Z,by simp<;>omega⟩ ?_))
   rw[show nth [a,b] 0 (zb .expr)=a from rfl,show nth [a,b] 1 (zb .expr)=b from rfl]
   refine z8 trivial λr hr=>zh (λ_=>zi ?_) λ_=>wM (xy) (qw ⟨Z,qz⟩ ?_)
   ·grind
   ·exact Ek⟩
instance (e:Expr) (v:wj) (l:List Lf.Rat):Sp (tE e v l) (EW KK e/\vh v/\rs l) (λr=>rg r.1/\rl r.1<=440000):=⟨λ⟨h1,M,h3⟩=>by
 unfold tE
 exact z8 h1 λb I=>zh (λ_=>zi ⟨Xq.1,Y (zJ Xq.2) (xm)⟩) λe=>z8 ⟨I (by simpa using e),M,h3⟩ λz hz=>zi hz⟩
instance (c:Check) (v:wj) (l:List Lf.Rat):Sp (oN c v l) (EW KK c.2.2.2.1/\EW KK c.2.2.2.2.1/\vh v/\rs l) (λ_=>True):=⟨λ⟨h1,M,h3⟩=>by
 unfold oN
 refine z8 ⟨h1,h3⟩ λx N=>z8 ⟨M,h3⟩ λy hy=>zh (λ_=>zi trivial) λ_=>z8 ⟨N.1,hy.1,?_⟩ λb _=>zh (λ_=>zi trivial) λ_=>zh (λ_=>zi trivial) λ_=>zi trivial
 have MO:=N.2
 have hy2:=hy.2
 omega⟩
open T PL
abbrev M3:=Int×wj×List zx
theorem zgK(f:Form)(d:qe)(i:Int)(x:List Bool)(p q:Int)(g:List Field)(e:wj)(b:List zx)(hg:g.length<=64)(I:b.length<=100000000) :
  (iK f d i x p q g (g.length:Int) (0,e,b)).wp λr=>∃ c:List zx,r=(e,c)/\c.length<=b.length+64:=by
 unfold iK
 refine vX (λz:M3=>∃ (k:Int) (c:List zx),z=(k,e,c)/\0<=k/\k<=g.length/\(c.length:Int)<=b.length+k) (λz:M3=>((g.length:Int)-z.1).toNat) ⟨0,b,rfl,xm,Z,Z⟩ ?_
 rintro _ ⟨k,c,rfl,k0,k1,hc⟩
 unfold iN
 refine zh (λJ => ?_) λJ=>ze (za (zi ⟨c,rfl,Z⟩))
 have J:=uE J
 have hw:qo (k+1)=k+1:=qv (Z) (Z)
 refine qw ⟨k0,J⟩ (zj (λ_ _ h=>⟨k0,by have:=gZ h; omega⟩) (zh (λ_=>vY (Z) (uo (Je _ _).symm (zi ?_))) λ_=>ze (za (zi ?_))))
 ·rw[hw]
  exact⟨⟨k+1,_,rfl,Z,Z,by rw[Je]; omega⟩,by simp only; omega⟩
 ·rw[hw]
  exact⟨⟨k+1,_,rfl,Z,Z,Z⟩,by simp only; omega⟩
theorem zgL(f:Form)(d:qe)(i:Int)(x:List Bool)(p q:Int)(g:List Check)(e:wj)(b:List zx)(hg:g.length<=8200/\∀ x∈g,EW KK x.2.2.2.1/\EW KK x.2.2.2.2.1)(hv:vh e/\rs d.2.2.1)(I:b.length<=100000000) :
  (iL f d i x p q g (g.length:Int) (0,e,b)).wp λr=>∃ c:List zx,r=(e,c)/\c.length<=b.length+8200:=by
 have T1:=hg.1
 unfold iL
 refine vX (λz:M3=>∃ (k:Int) (c:List zx),z=(k,e,c)/\0<=k/\k<=g.length/\(c.length:Int)<=b.length+k) (λz:M3=>((g.length:Int)-z.1).toNat) ⟨0,b,rfl,xm,Z,Z⟩ ?_
 rintro _ ⟨k,c,rfl,k0,k1,hc⟩
 unfold iO
 refine zh (λJ => ?_) λJ=>ze (za (zi ⟨c,rfl,Z⟩))
 have J:=uE J
 have hw:qo (k+1)=k+1:=qv (Z) (Z)
 have N:=hg.2 _ (xw (d:=zb xj) k0 J)
 refine qw ⟨k0,J⟩ (xn (wm (P:=λz=>∃ (q:Bool) (h:Check),z=(q,e,c,h)) (zh (λ_=>z8 ⟨N.1,N.2,hv⟩ λq _=>ze (za (zi ⟨_,_,rfl⟩))) λ_=>ze (za (zi ⟨_,_,rfl⟩))) ?_))
 rintro _ ⟨q,h,rfl⟩
 refine zh (λ_=>vY (Z) (uo (Je _ _).symm (zi ?_))) λ_=>ze (za (zi ?_))
 ·rw[hw]
  exact⟨⟨k+1,_,rfl,Z,Z,by rw[Je]; omega⟩,by simp only; omega⟩
 ·rw[hw]
  exact⟨⟨k+1,_,rfl,Z,Z,Z⟩,by simp only; omega⟩
instance (f:Form) (d:qe):Sp (iJ f d) (Dx f d) (λr=>r.length<=70000000):=⟨λ⟨hD,hV,f1,_⟩=>by
 have n3:=hV.1.2.2.1.1
 have n6:=hV.1.2.2.2.2.2
 unfold iJ
 refine z8 ⟨hV,hD.1⟩ λe he=>z8 hV.1 λx N=>zj cu0 (zj rfl (xn (wm (P:=λz=>z.2.length<=70000000) ?_ λz hz=>za (zi (by rw[cE]; exact hz)))))
 unfold sR
 refine vX (λz:M3=>∃ (k:Int) (c:List zx),z=(k,e,c)/\0<=k/\k<=x.length/\(c.length:Int)<=8264*k) (λz:M3=>((x.length:Int)-z.1).toNat) ⟨0,[],rfl,xm,Z,xm⟩ ?_
 rintro _ ⟨k,c,rfl,k0,k1,hc⟩
 unfold iM
 refine zh (λJ => ?_) λJ=>ze (za (zi (by show c.length<=_; omega)))
 have J:=uE J
 have hw:qo (k+1)=k+1:=qv (Z) (Z)
 refine qw ⟨k0,J⟩ (zh (λ_=>ze (za (zi ?_))) λ_=>ze (za (xn (wm (zgK f d k x _ k f.2.2.2.1 e c f1 (Z)) ?_))))
 ·rw[hw]
  exact⟨⟨k+1,_,rfl,Z,Z,Z⟩,by simp only; omega⟩
 ·rintro _ ⟨c1,rfl,h1⟩
  refine ze (za (xn (wm (zgL f d k x _ k f.2.2.2.2.2.1 e c1 ⟨n6.1,λy hy=>(n6.2 y hy).2⟩ ⟨he,hD.2.2.1⟩ (Z)) ?_)))
  rintro _ ⟨c2,rfl,M⟩
  refine ze (za (zi ?_))
  rw[hw]
  exact⟨⟨k+1,_,rfl,Z,Z,Z⟩,by simp only; omega⟩⟩
def it(l:List Param):Prop:=∀ x∈l,x.1.length<=24/\rg x.2.1/\rl x.2.1<=1700
instance (f:Form) (d:qe):Sp (W7 f d) (Dx f d) (λr=>it r/\r.length<=64):=⟨λ⟨hD,hV,f1,_⟩=>by
 have hn:=λx N=>(hV.2.2.2.2.1 x N).1
 have n3:=hV.1.2.2.1.1
 unfold W7
 refine z8 hV.1 λo ho=>zj cu0 (zj rfl (xn (wm (P:=λz=>it z/\z.length<=64) ?_ λz hz=>za (zi (by rw[cE]; exact hz)))))
 unfold Uz
 refine vX (λz:Int×List Param=>0<=z.1/\z.1<=f.2.2.2.1.length/\(z.2.length:Int)<=z.1/\it z.2) (λz=>((f.2.2.2.1.length:Int)-z.1).toNat) ⟨X _,by show(0:Int)<=_; omega,X _,nofun⟩ ?_
 rintro⟨k,a⟩ ⟨k0,k1,ha,hi⟩
 dsimp only at k0 k1 ha hi
 unfold Q4
 refine zh (λJ => ?_) λJ=>ze (za (zi ⟨hi,Z⟩))
 have J:=uE J
 have hw:qo (k+1)=k+1:=qv (Z) (Z)
 have N:=hn _ (xw (d:=zb qu) k0 J)
 refine qw ⟨k0,J⟩ (zj (λh1 M=>⟨Int.not_lt.1 (gZ h1),Int.not_le.1 (gZ M)⟩) (zh (λ_=>ze (za (zi ?_))) λ_=>z8 ⟨xm,xm⟩ λj hj=>xn (wm (P:=λz=>∃ r:Lf.Rat,z=(a,nth f.2.2.2.1 k (zb qu),r)/\rg r/\rl r<=1700) (zh (λhv => ?_) λ_=>ze (za (zi ⟨j,rfl,hj.1,?_⟩))) ?_)))
 ·rw[hw]
  exact⟨⟨by show 0<=k+1; omega,by show k+1<=_; omega,by show(a.length:Int)<=k+1; omega,hi⟩,by simp only; omega⟩
 ·have hv:=uE hv
  have q:=D0 hD.2.2.1 k k0 hv
  refine qw ⟨k0,hv⟩ (z8 ⟨q.1,Y q.2 (xm)⟩ λr hr=>ze (za (zi ⟨r,rfl,hr.1,?_⟩)))
  have:=hr.2.1
  have:=q.2
  omega
 ·have:=hj.2; omega
 ·rintro _ ⟨r,rfl,hr,hr2⟩
  refine vY (Z) (uo (Je _ _).symm (zi ?_))
  rw[hw]
  exact⟨⟨by show 0<=k+1; omega,by show k+1<=_; omega,by show((a++[_]).length:Int)<=k+1; rw[Je]; omega,yR hi ⟨N,hr,hr2⟩⟩,by simp only; omega⟩⟩
instance (l:List Param):Sp (mI l) (it l/\l.length<=64) (λ_=>True):=⟨λ⟨hi,hn⟩=>by
 unfold mI
 refine zj cu0 (zj rfl (xn (wm (P:=λz=>bt z.2/\z.2.length<=10000000) ?_ λz hz=>ze (za ?_))))
 ·unfold Z5
  refine vX (λz:Int×Unit×List Int=>0<=z.1/\z.1<=l.length/\bt z.2.2/\(z.2.2.length:Int)<=70000*z.1) (λz=>((l.length:Int)-z.1).toNat) ⟨X _,by show(0:Int)<=_; omega,(λ_ h=>nomatch h),xm⟩ ?_
  rintro⟨k,u,a⟩ ⟨k0,k1,I,ha⟩
  dsimp only at k0 k1 I ha
  unfold mf
  refine zh (λJ => ?_) λJ=>ze (za (zi ⟨I,by show a.length<=_; omega⟩))
  have J:=uE J
  have hw:qo (k+1)=k+1:=qv (Z) (Z)
  obtain⟨x1,x2,x3⟩:=hi _ (xw (d:=zb qf) k0 J)
  refine qw ⟨k0,J⟩ (vk (by show _+1<=_; omega) (z8 ⟨x2,Y x3 (xm)⟩ λs hs => ?_))
  have hs:s.length<=40*rl (nth l k (zb qf)).2.1+50:=hs
  have l1:(cat (nth l k (zb qf)).1 [32]).length=(nth l k (zb qf)).1.length+1:=yz _ _
  have l2:(cat (cat (nth l k (zb qf)).1 [32]) s).length=(nth l k (zb qf)).1.length+1+s.length:=by rw[yz,l1]
  have l3:(cat (cat (cat (nth l k (zb qf)).1 [32]) s) [10]).length=(nth l k (zb qf)).1.length+1+s.length+1:=by rw[yz,l2]; rfl
  refine vk (Z) (vk (by rw[l2]; show _+1<=_; omega) (ze (za (z8 (by rw[l3]; omega) λ⟨h,i,e⟩ he=>ze (za (zi ?_))))))
  have he:e=a++bytesOf _:=he
  subst he
  rw[hw]
  exact⟨⟨by show 0<=k+1; omega,by show k+1<=_; omega,BY I _,by show((a++bytesOf _).length:Int)<=_; rw[List.length_append,tX,l3]; omega⟩,by simp only; omega⟩
 ·unfold pA z3a
  exact xn (zj ⟨hz.1,Y hz.2 (xm)⟩ (zi (zi trivial)))⟩
open T PL
def Ei(e:zw):Prop:=Dx e.1 e.2.1/\Hw e.2.2.1/\pl e.2.2.2.1
def An(e:zw)(r:Answer×zw):Prop:=Ei r.2/\r.1.2.1.length<=70000000/\r.2.1=e.1/\(r.1.1≠0->r.2=e/\r.1.2.2.1=[])
def Pu(e e':zw):Prop:=e'.2.2.1.1.length=min 32 (e.2.2.1.1.length+1)/\e'.2.2.1.2.1.length=0
def Un(e e':zw):Prop:=e'.2.2.1.1.length+1=e.2.2.1.1.length/\e'.2.2.1.2.1.length=e.2.2.1.2.1.length+1
def Re(e e':zw):Prop:=e'.2.2.1.1.length=e.2.2.1.1.length+1/\e'.2.2.1.2.1.length+1=e.2.2.1.2.1.length
theorem An.er{e:zw}(h:Ei e)(n:Int)(l:List zx)(R:l.length<=70000000):An e ((n,l,[],()),e):=⟨h,R,rfl,λ_=>⟨rfl,rfl⟩⟩
instance (d:qe) (l:List zx) (n:Int) (e:zw):Sp (vv d l n e) (Ei e/\(n=0->Dx e.1 d)/\l.length<=1) (λr=>An e r/\(r.1.1=0->Pu e r.2)/\(r.1.1≠0->r.2.2.2.1=e.2.2.1)):=⟨λ⟨he,J,R⟩=>by
 have hF:FW 8200 e.1:=he.1.2.1.1
 unfold vv
 refine zh (λh=>zi ⟨An.er he n l (Z),nz (by simpa using h),λ_=>rfl⟩) λh => ?_
 have J:=J (by simpa using h)
 refine z8 he.1.1 λs hs=>z8 ⟨he.2.1,Y hs he.1.len⟩ λc hc=>z8 ⟨hF,he.2.2⟩ λg hg=>zi ⟨⟨⟨J,hc.1,hg⟩,zA _,rfl,nofun⟩,λ_=>hc.2,nofun⟩⟩
instance (i n:Int) (e:zw):Sp (jI i n e) (Ei e/\(n=0->pl i)) (λr=>An e r/\r.2.2.2.1=e.2.2.1/\r.2.2.1=e.2.1):=⟨λ⟨he,hi⟩=>by
 unfold jI
 exact zh (λh=>zi ⟨An.er he n [] (zA _),rfl,rfl⟩) λh=>zi ⟨⟨⟨he.1,he.2.1,hi (by simpa using h)⟩,zA _,rfl,nofun⟩,rfl,rfl⟩⟩
theorem OH(f:Form->List Bool->Int->T (Int×Bool))(hf:∀ x l a,FW 8200 x/\pl a->(f x l a).wp λr=>pl r.1)(e:zw)(he:Ei e):(j5 f e).wp λr=>An e r/\r.2.2.2.1=e.2.2.1/\r.2.2.1=e.2.1:=by
 have hF:FW 8200 e.1:=he.1.2.1.1
 unfold j5
 exact xn (wm (hf _ _ _ ⟨hF,he.2.2⟩) λ⟨b,c⟩ I=>zh (λ_=>zi ⟨An.er he 13 [] (zA _),rfl,rfl⟩) λ_=>z8 ⟨he,λ_=>I⟩ λ⟨d,e⟩ hr=>zi hr)
theorem Fu(j:uF->zx->T (uF×zx×Bool))(P:uF->uF->Prop)(hj:∀ h s,Hw h/\s.length<=1000000000->(j h s).wp λr=>(Hw r.1/\r.2.1.length<=1000000000)/\(r.2.2=true->P h r.1))(e:zw)(he:Ei e):(uO j e).wp λr=>An e r/\(r.1.1=0->P e.2.2.1 r.2.2.2.1)/\(r.1.1≠0->r.2.2.2.1=e.2.2.1):=by
 have hF:FW 8200 e.1:=he.1.2.1.1
 unfold uO
 refine z8 he.1.1 λs hs=>xn (wm (hj _ _ ⟨he.2.1,Y hs he.1.len⟩) λ⟨d,g,h⟩ J=>zh (λ_=>zi ⟨An.er he 13 [] (zA _),nz (a:=13) (xm),λ_=>rfl⟩) λhh=>z8 ⟨hF,J.1.2⟩ λ⟨b,x⟩ I=>zh (λh=>zi ⟨An.er he x [] (zA _),nz (by simpa using h),λ_=>rfl⟩) λh => ?_)
 have I:Dx e.1 b:=I (by simpa using h)
 exact z8 ⟨hF,he.2.2⟩ λi hi=>zi ⟨⟨⟨I,J.1.1,hi⟩,zA _,rfl,nofun⟩,λ_=>J.2 (by simpa using hh),nofun⟩
instance (e:zw):Sp (kK e) (Ei e) (λr=>An e r/\r.2.2.2.1=e.2.2.1):=⟨λhe=>by
 have hD:Dx e.1 e.2.1:=he.1
 unfold kK
 exact z8 hD λd J=>zh (λ_=>zi ⟨An.er he 15 d J,rfl⟩) λ_=>z8 hD λl R=>z8 R λs _=>zi ⟨⟨he,zA _,rfl,nofun⟩,rfl⟩⟩
def Kn(k:Int)(e:zw)(r:Answer×zw):Prop :=
 (r.1.1=0->1<=k->k<=5->Pu e r.2)/\(r.1.1=0->k=9->Un e r.2)/\(r.1.1=0->k=10->Re e r.2)/\(¬ (r.1.1=0/\(1<=k/\k<=5\/k=9\/k=10))->r.2.2.2.1=e.2.2.1)/\(6<=k->k<=8->r.2.2.1=e.2.1)
def Ov(o:Op):Prop:=rg o.2.2.1/\rl o.2.2.1<=1700
theorem eqI{a b:Int}(h:(a==b)=true):a=b:=eq_of_beq h
theorem neI{a b:Int}(h:(a==b)=false):a≠b:=beq_eq_false_iff_ne.1 h
theorem k23{k:Int}(h:(bif (k==2)then(k==2)else(k==3))=true):1<=k/\k<=5:=by
 cases q:k==2 with
 | true=>have:=eqI q; omega
 | false=>rw[q]at h; have:=eqI h; omega
theorem Kn.ch{k:Int}{e:zw}{r:Answer×zw}(hk:1<=k/\k<=5)(h:An e r/\(r.1.1=0->Pu e r.2)/\(r.1.1≠0->r.2.2.2.1=e.2.2.1)):An e r/\Kn k e r :=
 ⟨h.1,λq _ _=>h.2.1 q,Z,Z,λq=>h.2.2 λz=>q ⟨z,.inl hk⟩,Z⟩
theorem Kn.tu{k:Int}{e:zw}{r:Answer×zw}(hk:6<=k/\k<=8)(h:An e r/\r.2.2.2.1=e.2.2.1/\r.2.2.1=e.2.1):An e r/\Kn k e r :=
 ⟨h.1,Z,Z,Z,λ_=>h.2.1,λ_ _=>h.2.2⟩
instance (o:Op) (e:zw):Sp (gC o e) (Ei e/\Ov o) (λr=>An e r/\Kn o.1 e r):=⟨λ⟨he,hv⟩=>by
 have hF:FW 8200 e.1:=he.1.2.1.1
 have hD:Dw e.2.1:=he.1.1
 unfold gC
 dsimp only
 refine zh (λk=>z8 ⟨hF,hD,hv⟩ λ⟨x,y,z⟩ hz=>z8 ⟨he,hz.1,hz.2⟩ λr hr=>zi (Kn.ch (by have:=eqI k; omega) hr)) λk1 => ?_
 refine zh (λk=>z8 ⟨hF,hD⟩ λ⟨x,y,z⟩ hz=>z8 ⟨he,hz.1,hz.2⟩ λr hr=>zi (Kn.ch (k23 k) hr)) λk2 => ?_
 refine zh (λk=>z8 ⟨hF,hD,hv⟩ λ⟨x,y,z⟩ hz=>z8 ⟨he,hz.1,hz.2⟩ λr hr=>zi (Kn.ch (by have:=eqI k; omega) hr)) λk4 => ?_
 refine zh (λk=>z8 ⟨hF,hD⟩ λ⟨x,y,z⟩ hz=>z8 ⟨he,hz.1,hz.2⟩ λr hr=>zi (Kn.ch (by have:=eqI k; omega) hr)) λk5 => ?_
 refine zh (λk=>xn (wm (OH _ (λx l a h=>Sp.sp h) e he) λr hr=>zi (Kn.tu (by have:=eqI k; omega) hr))) λk6 => ?_
 refine zh (λk=>xn (wm (OH _ (λx l a h=>Sp.sp h) e he) λr hr=>zi (Kn.tu (by have:=eqI k; omega) hr))) λk7 => ?_
 refine zh (λk=>z8 hF λ⟨x,y⟩ N=>z8 ⟨he,N⟩ λr hr=>zi (Kn.tu (by have:=eqI k; omega) hr)) λk8 => ?_
 refine zh (λk=>xn (wm (Fu _ (λh h'=>h'.1.length+1=h.1.length/\h'.2.1.length=h.2.1.length+1) (λh s q=>Sp.sp q) e he) λr hr=>zi ?_)) λk9 => ?_
 ·have k:=eqI k
  exact⟨hr.1,Z,λq _=>hr.2.1 q,Z,λq=>hr.2.2 λz=>q ⟨z,.inr (.inl k)⟩,Z⟩
 refine zh (λk=>xn (wm (Fu _ (λh h'=>h'.1.length=h.1.length+1/\h'.2.1.length+1=h.2.1.length) (λh s q=>Sp.sp q) e he) λr hr=>zi ?_)) λk10 => ?_
 ·have k:=eqI k
  exact⟨hr.1,Z,Z,λq _=>hr.2.1 q,λq=>hr.2.2 λz=>q ⟨z,.inr (.inr k)⟩,Z⟩
 have n1:=neI k1
 have n2:Ne (α:=Int) o.1 2:=λq=>by rw[q]at k2; cases k2
 have n3:Ne (α:=Int) o.1 3:=λq=>by rw[q]at k2; cases k2
 have n4:=neI k4
 have n5:=neI k5
 have n6:=neI k6
 have n7:=neI k7
 have n8:=neI k8
 have n9:=neI k9
 have n10:=neI k10
 have fin:∀ r:Answer×zw,An e r/\r.2.2.2.1=e.2.2.1->An e r/\Kn o.1 e r:=λr h=>⟨h.1,Z,Z,Z,λ_=>h.2,Z⟩
 exact zh (λk=>z8 he λr hr=>zi (fin _ hr)) λ_=>zi (fin _ ⟨An.er he 1 [] (zA _),rfl⟩)⟩
instance (o:Op) (e:zw):Sp (yG o e) (Ei e/\Ov o) (λr=>An e r/\Kn o.1 e r):=⟨λh=>by
 unfold yG cy
 refine wM rfl (zh (λ_=>zi ⟨An.er h.1 14 [] (zA _),?_⟩) λ_=>z8 h λ⟨b,c⟩ hr=>xn (wM rfl (zi (zi hr))))
 exact⟨nz (a:=14) (xm),nz (a:=14) (xm),nz (a:=14) (xm),λ_=>rfl,λ_ _=>rfl⟩⟩
open T PL
theorem rg_of{a:Lf.Rat}(h:wf zl a):rg a:=⟨λx N=>by have:=h.2.1 x N; exact⟨this.1,zF this.2 (xm)⟩,λx N=>by have:=h.2.2.1 x N; exact⟨this.1,zF this.2 (xm)⟩⟩
theorem zkK(a:Lf.Rat):rl a<=bk zl a:=by
 have e:bk zl a=1+((Xv (λ_=>1) a.2.1+1)+((Xv (λ_=>1) a.2.2.1+1)+1)):=rfl
 rw[e,Gp,Gp]
 unfold rl
 omega
theorem Fx{α:Type}(f:α->Nat){l:List α}{x:α}(h:x∈l):f x<=Xv f l:=by
 induction l with
 | nil=>cases h
 | cons a r ih =>
  show _<=f a+Xv f r
  rcases List.mem_cons.1 h with rfl | h
  ·omega
  ·have:=ih h; omega
theorem Gn{α:Type}(f:α->Nat)(hf:∀ x,1<=f x):∀ l:List α,l.length<=Xv f l
 | []=>zE _
 | a::r=>by have:=Gn f hf r; have:=hf a; show r.length+1<=f a+Xv f r; omega
theorem Mq(e:Expr):1<=bkE e:=by cases e; unfold bkE; omega
theorem Dv:∀ (e:Expr),wfE e->bkE e<=KK->EW KK e
 | .mk k n s l,hw,I=>by
  unfold wfE at hw
  unfold bkE at I
  rw[Mt]at I
  have h1:=Gn (bk .expr) (λx=>Mq x) l
  refine .mk (rg_of ⟨trivial,hw.2.1.2.1,hw.2.1.2.2.1,trivial⟩) (by unfold rl; omega) (Z) (Z) λx N => ?_
  have M:=Fx (bk .expr) N
  have h3:bk .expr x=bkE x:=rfl
  exact Dv x ((Px l).1 hw.2.2.2.1 x N) (Z)
termination_by e=>zI e
decreasing_by have:=zG N; simp; omega
theorem Tu:∀ (τ:Ty) (x:den τ),1<=bk τ x
 | .int _,_=>zE _
 | .bool,_=>zE _
 | .str,_=>Nat.le_add_left ..
 | .sl _,_=>Nat.le_add_left ..
 | .nil,_=>zE _
 | .cons a b,x=>Y (Tu a x.1) (Nat.le_add_right ..)
 | .expr,x=>Mq x
theorem bl{τ:Ty}(l:List (den τ)):l.length+1<=bk (.sl τ) l:=Nat.succ_le_succ (Gn _ (Tu τ) l)
theorem bm{τ:Ty}{l:List (den τ)}{x:den τ}(h:x∈l):bk τ x+1<=bk (.sl τ) l:=Nat.succ_le_succ (Fx _ h)
theorem zar(f:Form)(hw:wf qy f)(I:bk qy f<=1048576):FW KK f:=by
 have kk:KK=2000000:=rfl
 obtain⟨w1,w2,w3,w4,w5,w6,-⟩:=hw
 have e:bk qy f=bk (.sl qq) f.1+(bk (.sl qf) f.2.1+(bk (.sl xp) f.2.2.1+(bk (.sl qu) f.2.2.2.1+(bk (.sl xl) f.2.2.2.2.1+(bk (.sl xj) f.2.2.2.2.2.1+1))))):=rfl
 have l1:=bl (τ:=qq) f.1
 have l2:=bl (τ:=qf) f.2.1
 have l3:=bl (τ:=xp) f.2.2.1
 have l4:=bl (τ:=qu) f.2.2.2.1
 have l5:=bl (τ:=xl) f.2.2.2.2.1
 have l6:=bl (τ:=xj) f.2.2.2.2.2.1
 refine⟨⟨Z,λx N => ?_⟩,⟨Z,λx N => ?_⟩,⟨Z,λx N => ?_⟩,⟨Z,λx N => ?_⟩,⟨Z,λx N => ?_⟩,Z,λx N => ?_⟩
 ·have m:=bm (τ:=qq) N
  have q:bk qq x=(x.1.length+1)+(1+1):=rfl
  omega
 ·have m:=bm (τ:=qf) N
  have q:bk qf x=(x.1.length+1)+(bk zl x.2.1+1):=rfl
  have:=zkK x.2.1
  exact⟨Z,rg_of (w2 x N).2.1,Z⟩
 ·have m:=bm (τ:=xp) N
  have q:bk xp x=(x.1.length+1)+((x.2.1.length+1)+1):=rfl
  exact⟨Z,Z⟩
 ·have m:=bm (τ:=qu) N
  have q:bk qu x=(x.1.length+1)+(1+(1+(1+1))):=rfl
  omega
 ·have m:=bm (τ:=xl) N
  have q:bk xl x=(x.1.length+1)+(1+((x.2.2.1.length+1)+(bkE x.2.2.2.1+(bkE x.2.2.2.2.1+1)))):=rfl
  have w:=w5 x N
  exact⟨Z,Z,Dv _ w.2.2.2.1 (Z),Dv _ w.2.2.2.2.1 (Z)⟩
 ·have m:=bm (τ:=xj) N
  have q:bk xj x=(x.1.length+1)+(1+(1+(bkE x.2.2.2.1+(bkE x.2.2.2.2.1+1)))):=rfl
  have w:=w6 x N
  exact⟨Z,Dv _ w.2.2.2.1 (Z),Dv _ w.2.2.2.2.1 (Z)⟩
open T PL
instance (e:Expr) (n:Int):Sp (bT e n) (EW KK e /\ -1000000000<=n/\n<=1000000000) (λr=>r<=n/\min n 0-40000000<=r):=⟨λ⟨h,hn⟩=>by
 unfold bT
 refine se (x:=(e,n)) (σ:=Expr×Int) (λ(e,n)=>EW KK e /\ -1000000000<=n/\n<=1000000000) (λ(e,_)=>zI e) (λ(e,n) (r:Int)=>r<=n/\min n 0-40000000<=r) ?_ ?_ ⟨h,hn⟩
 ·intro g g' hg x
  unfold dq nR eE
  exact mono
 ·rintro⟨e,n⟩ ⟨he,h0,h1⟩ g hg
  cases he with
  | @mk kd q s L g1 g2 g3 g4 g5 =>
  have kk:KK=2000000:=rfl
  have r1:=(SK (a:=q)).1
  have r2:=(SK (a:=q)).2
  unfold dq nR
  simp only[Expr.kids,Expr.num,Expr.name]
  simp(disch:=omega) only[qv]
  refine xn (wm (vX (Q:=λr=>r<=n/\min n 0-40000000<=r) (λz:Int×Int=>0<=z.2/\z.2<=L.length/\z.1<=n/\min n 0-40000000<=z.1) (λz=>((L.length:Int)-z.2).toNat) ⟨X _,by show(0:Int)<=_; omega,by show n-3-_-_-_<=n; omega,by show _<=n-3-_-_-_; omega⟩ ?_) λr hr=>zi hr)
  rintro⟨b,i⟩ ⟨i0,i1,b0,b1⟩
  dsimp only at i0 i1 b0 b1
  unfold eE
  refine zh (λJ => ?_) λJ=>zi ⟨b0,b1⟩
  have J:=V.1 J
  have d1:i<(L.length:Int):=uE J.1
  have d2:0<=b:=uE J.2
  have hw:qo (i+1)=i+1:=qv (Z) (Z)
  have hm:=xw (l:=L) (d:=zb .expr) i0 d1
  refine qw ⟨i0,d1⟩ (xn (wm (hg (nth L i (zb .expr),b) ⟨g5 _ hm,Z,Z⟩ (by have:=zG hm; simp; omega)) λr hr=>zi ?_))
  have hr:r<=b/\min b 0-40000000<=r:=hr
  rw[hw]
  exact⟨⟨by show 0<=i+1; omega,by show i+1<=_; omega,by show r<=n; omega,by show _<=r; omega⟩,by simp only; omega⟩⟩
abbrev Tg:Int := -1000000000
theorem IY{α:Type}(l:List α)(d:α)(R:l.length<=KK)(c0:Int)(hc:Tg<=c0/\c0<=600){hl:Int×Int->T ((Int×Int)⊕Int)}
  (step:∀ c i:Int,0<=i->i<l.length->0<=c->c<=600->nth l i d∈l->(hl (c,i)).wp λz=>∃ c',z=.inl (c',qo (i+1))/\c'<=c/\Tg<=c')
  (stop:∀ c i:Int,((decide (i<(l.length:Int)))&&(decide ((0:Int)<=c)))=false->(hl (c,i)).wp λz=>z=.inr c):(T.loop hl (c0,0)).wp λr=>r<=c0/\Tg<=r:=by
 have kk:KK=2000000:=rfl
 refine vX (λz:Int×Int=>0<=z.2/\z.2<=l.length/\z.1<=c0/\Tg<=z.1) (λz=>((l.length:Int)-z.2).toNat) ⟨X _,by show(0:Int)<=_; omega,X _,hc.1⟩ ?_
 rintro⟨c,i⟩ ⟨i0,i1,b0,b1⟩
 dsimp only at i0 i1 b0 b1
 cases J:(decide (i<(l.length:Int)))&&(decide ((0:Int)<=c))with
 | true =>
  have J:=V.1 J
  have d1:i<(l.length:Int):=uE J.1
  have d2:0<=c:=uE J.2
  have hw:qo (i+1)=i+1:=qv (Z) (Z)
  refine wm (step c i i0 d1 d2 (Z) (xw i0 d1)) ?_
  rintro _ ⟨c',rfl,q1,q2⟩
  rw[hw]
  exact⟨⟨by show 0<=i+1; omega,by show i+1<=_; omega,by show c'<=_; omega,q2⟩,by simp only; omega⟩
 | false =>
  refine wm (stop c i J) ?_
  rintro _ rfl
  exact⟨b0,b1⟩
instance (f:Form):Sp (sH f) (FW KK f) (λr=>r=false->FW 8200 f):=⟨λh=>by
 have kk:KK=2000000:=rfl
 have lo:Tg = -1000000000:=rfl
 obtain⟨⟨n1,f1⟩,⟨n2,f2⟩,⟨n3,f3⟩,⟨n4,f4⟩,⟨n5,f5⟩,n6,f6⟩:=h
 unfold sH
 simp(disch:=omega) only[qv]
 generalize hS:(f.1.length:Int)+f.2.1.length+f.2.2.1.length+f.2.2.2.1.length+f.2.2.2.2.1.length+f.2.2.2.2.2.1.length=S
 refine xn (wm (IY f.2.1 (zb qf) n2 _ ⟨Z,Z⟩ (λc i i0 i1 c0 c1 hm => ?_) λc i J => ?_) λc1 h1 => ?_)
 ·have m:=f2 _ hm
  have r1:=(SK (a:=(nth f.2.1 i (zb qf)).2.1)).1
  have r2:=(SK (a:=(nth f.2.1 i (zb qf)).2.1)).2
  have m1:=m.1
  have m2:=m.2.2
  unfold rm
  dsimp only
  simp(disch:=omega) only[qv]
  exact uy (by simp[i1,c0]) (qw ⟨i0,i1⟩ (qw ⟨i0,i1⟩ (qw ⟨i0,i1⟩ (zi ⟨_,rfl,Z,Z⟩))))
 ·exact wM J (zi rfl)
 refine xn (wm (IY f.1 (zb qq) n1 c1 ⟨h1.2,Z⟩ (λc i i0 i1 c0 c1 hm => ?_) λc i J => ?_) λc2 M => ?_)
 ·have m:=f1 _ hm
  unfold rq
  dsimp only
  simp(disch:=omega) only[qv]
  exact uy (by simp[i1,c0]) (qw ⟨i0,i1⟩ (zi ⟨_,rfl,Z,Z⟩))
 ·exact wM J (zi rfl)
 refine xn (wm (IY f.2.2.1 (zb xp) n3 c2 ⟨M.2,Z⟩ (λc i i0 i1 c0 c1 hm => ?_) λc i J => ?_) λc3 h3 => ?_)
 ·have m:=f3 _ hm
  have m1:=m.1
  have m2:=m.2
  unfold ru
  dsimp only
  simp(disch:=omega) only[qv]
  exact uy (by simp[i1,c0]) (qw ⟨i0,i1⟩ (qw ⟨i0,i1⟩ (zi ⟨_,rfl,Z,Z⟩)))
 ·exact wM J (zi rfl)
 refine xn (wm (IY f.2.2.2.1 (zb qu) n4 c3 ⟨h3.2,Z⟩ (λc i i0 i1 c0 c1 hm => ?_) λc i J => ?_) λc4 h4 => ?_)
 ·have m:=f4 _ hm
  unfold ry
  dsimp only
  simp(disch:=omega) only[qv]
  exact uy (by simp[i1,c0]) (qw ⟨i0,i1⟩ (zi ⟨_,rfl,Z,Z⟩))
 ·exact wM J (zi rfl)
 refine xn (wm (IY f.2.2.2.2.1 (zb xl) n5 c4 ⟨h4.2,Z⟩ (λc i i0 i1 c0 c1 hm => ?_) λc i J => ?_) λc5 h5 => ?_)
 ·obtain⟨m1,m2,m3,m4⟩:=f5 _ hm
  unfold rA
  dsimp only
  simp(disch:=omega) only[qv]
  refine uy (by simp[i1,c0]) (qw ⟨i0,i1⟩ (qw ⟨i0,i1⟩ (qw ⟨i0,i1⟩ (qw ⟨i0,i1⟩ (z8 ⟨m3,Z,Z⟩ λx N=>z8 ⟨m4,Z,Z⟩ λy hy=>zi ⟨_,rfl,Z,Z⟩)))))
 ·exact wM J (zi rfl)
 refine xn (wm (IY f.2.2.2.2.2.1 (zb xj) n6 c5 ⟨h5.2,Z⟩ (λc i i0 i1 c0 c1 hm => ?_) λc i J => ?_) λc6 h6=>zi λe => ?_)
 ·obtain⟨m1,m3,m4⟩:=f6 _ hm
  unfold rB
  dsimp only
  simp(disch:=omega) only[qv]
  refine uy (by simp[i1,c0]) (qw ⟨i0,i1⟩ (qw ⟨i0,i1⟩ (qw ⟨i0,i1⟩ (z8 ⟨m3,Z,Z⟩ λx N=>z8 ⟨m4,Z,Z⟩ λy hy=>zi ⟨_,rfl,Z,Z⟩))))
 ·exact wM J (zi rfl)
 have e:=gZ e
 exact⟨⟨Z,f1⟩,⟨Z,f2⟩,⟨Z,f3⟩,⟨Z,f4⟩,⟨Z,f5⟩,Z,f6⟩⟩
def okL(l:List Op)(n:Int):Prop:=∀ i:Int,0<=i->i<l.length->i<n->(nth l i (zb fA)).2.2.1.2.1.length<=3/\(nth l i (zb fA)).2.2.1.2.2.1.length<=3
instance (l:List Op):Sp (ZM l) (l.length<=KK) (λr=>r=false->okL l 25):=⟨λh=>by
 have kk:KK=2000000:=rfl
 unfold ZM Wu
 refine xn (wm (P:=λz:Unit⊕Bool=>z.elim (λ_=>okL l 25) λb=>b=true) ?_ λz hz => ?_)
 ·refine vX (σ:=Int) (λi=>0<=i/\i<=l.length/\okL l i) (λi=>((l.length:Int)-i).toNat) ⟨Z,Z,λi _ _ _=>Z⟩ λi ⟨i0,i1,hi⟩ => ?_
  unfold tp
  dsimp only
  refine zh (λJ => ?_) λJ=>zi λj j0 j1 j2=>hi j j0 j1 ?_
  ·have J:=V.1 J
   have d1:i<(l.length:Int):=uE J.1
   have hw:qo (i+1)=i+1:=qv (Z) (Z)
   refine zj ⟨⟨i0,d1⟩,λ_=>⟨⟨i0,d1⟩,λ_=>⟨i0,d1⟩⟩⟩ (zh (λ_=>zi rfl) λe=>zi ?_)
   rw[hw]
   simp only[Bool.or_eq_false_iff]at e
   have e1:=gZ e.2.1
   have e2:=gZ e.2.2
   refine⟨⟨Z,Z,λj j0 j1 j2 => ?_⟩,Z⟩
   by_cases q:j=i
   ·subst q; exact⟨Z,Z⟩
   ·exact hi j j0 j1 (Z)
  ·simp only[Bool.and_eq_false_iff]at J
   rcases J with J | J
   ·have:=gZ J; omega
   ·have:=gZ J; omega
 ·rcases z with z | z
  ·exact zi λ_=>hz
  ·have hz:z=true:=hz
   subst hz
   exact zi nofun⟩
open T PL
instance (f:Form):Sp (fX f) (FW 8200 f) (λr=>r.elim (λz=>z.2.1=0/\Ei z.2.2) λz=>z.2≠0):=⟨λh=>by
 unfold fX
 refine z8 h λ⟨s,k⟩ _=>zh (λe=>zi (by simpa using e)) λ_=>z8 h λa ha=>z8 ha λ⟨l,b,i,d,c,e,g,j⟩ hr=>zh (λq => ?_) λq => ?_
 ·have I:b.length<=1:=hr.2
  exact zj (Z) (zj ⟨xm,by show(0:Int)<((b.length+1:Nat):Int); omega⟩ (zj ⟨rfl,by rw[Je]; show 0+0<_; omega⟩ (zi (by simpa using q))))
 ·have hD:Dx a (d,c,l.1,e,g,j,()):=hr.1 (by simpa using q)
  rw[cE,cE,cE,cE,cE]
  exact za (za (za (za (za (z8 ⟨ha.1,xm,xm⟩ λm hm=>zi ⟨rfl,hD,⟨zA _,nofun,nofun⟩,hm⟩)))))⟩
instance (s:zx):Sp (pT s) (s.length<=1000000000) (λr=>r.length<=2000000000):=⟨λh=>by
 unfold pT
 refine z8 ⟨Z,Z⟩ λa ha=>vk (by show a.length+1<=_; omega) (vk (by rw[yz]; show a.length+1+s.length<=_; omega) (zi (by rw[yz,yz]; show a.length+1+s.length<=_; omega)))⟩
instance (w:zx) (l:List zx):Sp (tO w l) (w.length<=10/\l.length<=32/\sL l) (λr=>r.length<=100000000000):=⟨λ⟨h,R,hs⟩=>by
 unfold tO VQ
 refine vk (by show w.length+1<=_; omega) (z8 ⟨Z,Z⟩ λb I=>vk (by rw[yz]; show w.length+1+b.length<=_; omega) (vk (by rw[yz,yz]; show w.length+1+b.length+1<=_; omega) (xn (wm (P:=λr=>r.length<=100000000000) ?_ λr hr=>zi hr))))
 refine vX (λz:zx×Int=>0<=z.2/\z.2<=l.length/\(z.1.length:Int)<=100+2000000000*z.2) (λz=>((l.length:Int)-z.2).toNat) ⟨X _,by show(0:Int)<=_; omega,by show((cat (cat (cat w [32]) b) [10]).length:Int)<=100+2000000000*0; rw[yz,yz,yz]; show((w.length+1+b.length+1:Nat):Int)<=_; omega⟩ ?_
 rintro⟨s,i⟩ ⟨i0,i1,hs2⟩
 dsimp only at i0 i1 hs2
 unfold Zu
 refine zh (λJ => ?_) λJ=>zi (by show s.length<=_; omega)
 have J:=uE J
 have hw:qo (i+1)=i+1:=qv (Z) (Z)
 refine qw ⟨i0,J⟩ (z8 (hs _ (xw i0 J)) λc hc=>vk (Z) (zi ?_))
 rw[hw]
 exact⟨⟨by show 0<=i+1; omega,by show i+1<=_; omega,by show((cat s c).length:Int)<=_; rw[yz]; show((s.length+c.length:Nat):Int)<=100+2000000000*(i+1); omega⟩,by simp only; omega⟩⟩
instance (e:zw):Sp (jR e) (Ei e) (λ_=>True):=⟨λ⟨hD,⟨h1,M,h3⟩,p0,p1⟩=>by
 unfold jR WS
 refine wM rfl (z8 hD.1 λb I=>xn (z8 (Y I hD.len) λx N=>z8 ⟨xm,by show e.2.2.1.1.length<=32; omega,M⟩ λc hc=>vk (Z) (z8 ⟨xm,by show e.2.2.1.2.1.length<=32; omega,h3⟩ λd J => ?_)))
 dsimp only
 refine vk (by rw[yz]; omega) (vk (by rw[yz,yz]; show _+5<=_; omega) (z8 ⟨p0,zF p1 (xm)⟩ λy hy=>vk ?_ (vk ?_ (z8 trivial λz hz=>vk ?_ (vk ?_ (zi (zi trivial)))))))
 all_goals
  simp only[yz,List.length_cons,List.length_nil]at *
  omega⟩
open T PL
theorem zdP{l:List Op}{n:Int}(h:okL l n)(hr:∀ o∈l,rg o.2.2.1){i:Int}(i0:0<=i)(i1:i<l.length)(i2:i<n):Ov (nth l i (zb fA)):=by
 have:=h i i0 i1 i2
 exact⟨hr _ (xw i0 i1),by unfold rl; omega⟩
theorem z1a(hk:gG.run=some true):(T.bind gG λh=>T.ret h).wp λr=>r=true:=xn (bF hk (zi rfl))
theorem TZ(hk:gG.run=some true)(f:Form)(l:List Op)(hf:FW KK f)(R:l.length<=KK)(hr:∀ o∈l,rg o.2.2.1):(yI f l).run=some true:=by
 suffices h:(yI f l).wp (λr=>r=true) by
  obtain⟨a,h1,M⟩:=T.mn.1 h
  rw[h1,M]
 have K:=z1a hk
 unfold yI
 refine xn (wm (P:=λr=>r=false->FW 8200 f/\okL l 25) (z8 hf λc hc=>zh (λ_=>zi nofun) λe=>z8 R λd J=>zi λq=>⟨hc e,J q⟩) λe he=>zh (λ_=>zi rfl) λe2 => ?_)
 obtain⟨hF,hO⟩:=he e2
 refine z8 hF λz hz => ?_
 rcases z with⟨m,n,g⟩ | ⟨p,k⟩
 ·obtain⟨hn,hE⟩:=hz
  have hn:n=0:=hn
  subst hn
  refine wM rfl (xn (wm (P:=λz=>∃ d,z=.inl d) ?_ ?_))
  ·unfold ll
   refine vX (λz:Int×zw=>0<=z.1/\z.1<=l.length/\Ei z.2) (λz=>((l.length:Int)-z.1).toNat) ⟨X _,by show(0:Int)<=_; omega,hE⟩ ?_
   rintro⟨i,d⟩ ⟨i0,i1,J⟩
   dsimp only at i0 i1 J
   unfold cB
   refine zh (λhc => ?_) λ_=>zi ⟨d,rfl⟩
   have hc:=V.1 hc
   have d1:i<(l.length:Int):=uE hc.1
   have d2:i<25:=uE hc.2
   have hw:qo (i+1)=i+1:=qv (Z) (Z)
   obtain⟨s,hs,_⟩:=T.mn.1 (Sp.sp (t:=jR d) J)
   refine xn (bF hs (qw ⟨i0,d1⟩ (z8 ⟨J,zdP hO hr i0 d1 d2⟩ λ⟨a,c⟩ ha => ?_)))
   obtain⟨⟨h1,M,h3,h4⟩,-⟩:=ha
   refine xn (wm (P:=λz=>z=(false,c,a)) (zh (λe => ?_) λ_=>zi rfl) ?_)
   ·obtain⟨e1,e2⟩:=h4 (by simpa using e)
    have e1:c=d:=e1
    have e2:a.2.2.1=[]:=e2
    subst e1
    refine xn (bF hs (wM (by simp[wK]) (zi ?_)))
    rw[e2]; rfl
   ·rintro _ rfl
    refine wM rfl (zi ?_)
    rw[hw]
    exact⟨⟨by show 0<=i+1; omega,by show i+1<=_; omega,h1⟩,by simp only; omega⟩
  ·rintro _ ⟨d,rfl⟩
   exact K
 ·exact uy (by simpa using hz) (uy rfl K)
theorem z1e(x:Y8 [qy,.sl fA])(hw:wfL [qy,.sl fA] x)(I:bkL [qy,.sl fA] x<=1048576):FW KK x.1/\List.length x.2.1<=KK/\∀ o∈x.2.1,rg o.2.2.1:=by
 have kk:KK=2000000:=rfl
 have e:bkL [qy,.sl fA] x=bk qy x.1+(bk (.sl fA) x.2.1+0):=rfl
 have:=bl (τ:=fA) x.2.1
 exact⟨zar _ hw.1 (Z),Z,λo ho=>rg_of (hw.2.1 o ho).2.2.1⟩
instance (i:Int) (n:Nat):Decidable (xe i n):=inferInstanceAs (Decidable (_/\_))
instance (a b c d:Nat):Decidable (uN a b c d):=inferInstanceAs (Decidable (_/\_))
instance (a b c d:Nat):Decidable (zu a b c d):=inferInstanceAs (Decidable (_/\_/\_))
instance (a b:Int) (c:Nat):Decidable (jy a b c):=inferInstanceAs (Decidable (_/\_/\_))
instance (a b c:Int) (d:Nat):Decidable (zkQ a b c d):=inferInstanceAs (Decidable (_/\_/\_/\_))
instance (a b:Int) (c:Nat):Decidable (ez a b c):=inferInstanceAs (Decidable (_/\_/\_/\_))
instance (a b c d e f g:Nat):Decidable (vS a b c d e f g):=inferInstanceAs (Decidable (_/\_/\_/\_))
instance (a b c d e:Nat):Decidable (QL a b c d e):=inferInstanceAs (Decidable (_/\_))
instance (n:Int):Decidable (wfI n):=inferInstanceAs (Decidable (_=true))
instance (y:Bool) (n:Int) (l:List Int):Decidable (z2b y n l):=inferInstanceAs (Decidable (_/\_/\_))
noncomputable def nx {σ ρ:Type} (r:σ->T (σ⊕ρ)):σ⊕ρ->Option ρ
 | .inl s=>(T.loop r s).run
 | .inr y=>some y
theorem z9M{σ ρ:Type}{r:σ->T (σ⊕ρ)}{s:σ}{z:σ⊕ρ}{x:ρ}(h:(r s).run=some z)(k:nx r z=some x):(T.loop r s).run=some x:=by
 cases z with
 | inl s'=>rw[XS h]; exact k
 | inr y=>rw[p9 h]; exact k
theorem nxL{σ ρ:Type}{r:σ->T (σ⊕ρ)}{s:σ}{x:ρ}(k:(T.loop r s).run=some x):nx r (.inl s)=some x:=k
theorem nxR{σ ρ:Type}{r:σ->T (σ⊕ρ)}{y:ρ}:nx r (.inr y)=some y:=rfl
theorem z98{α β:Type}{t:T α}{f:α->T β}{a:α}{x:β}(h:t.run=some a)(k:(f a).run=some x):(t.bind f).run=some x:=(zt h f).trans k
theorem zgx{α:Type}{b:Bool}{t e:T α}{x:α}(h:b=true)(k:t.run=some x):(T.ite b t e).run=some x:=by subst h; exact k
theorem zgw{α:Type}{b:Bool}{t e:T α}{x:α}(h:b=false)(k:e.run=some x):(T.ite b t e).run=some x:=by subst h; exact k
theorem zgN{α:Type}{p:Prop}{t:T α}{x:α}(h:p)(k:t.run=some x):(T.W p t).run=some x:=(xi h t).trans k
theorem elL{α β γ:Type}{f:α->T γ}{g:β->T γ}{a:α}{x:γ}(h:(f a).run=some x):(Sum.elim f g (.inl a)).run=some x:=h
theorem elR{α β γ:Type}{f:α->T γ}{g:β->T γ}{a:β}{x:γ}(h:(g a).run=some x):(Sum.elim f g (.inr a)).run=some x:=h
theorem zaP{a:zx}(h:(decide (a.length<4294967281)&&a.all λb=>decide (b.toNat<128))=true):(strings_makeASCIISet a).run=some (lE a,true):=by
 simp only[Bool.and_eq_true,decide_eq_true_eq,List.all_eq_true]at h
 unfold strings_makeASCIISet
 rw[xi ⟨h.1,λj b I=>h.2 b (zH I)⟩,xz]
theorem evd{α:Type}{t:T α}{x y:α}(h:t.run=some x)(k:x=y):t.run=some y:=by rw[h,k]
theorem zaR{e:Type}{a:List e}{n:Nat}(h:vS 0 0 0 0 0 a.length n):(T.W (a=[]->∀ r,T.leads (.W (vS 0 0 0 0 0 a.length n)<|.W (0+a.length=0+a.length)<|.ret (zK 0 (zL (0+(0+a.length)) a)):T _) r->T.leads (.ret ([]:List e):T _) r)<|.W (vS 0 0 0 0 0 a.length n)<|.W (0+a.length=0+a.length)<|.ret (zK 0 (zL (0+(0+a.length)) a)):T (List e)).run=some a:=by
 have e0:zK 0 (zL (0+(0+a.length)) a)=a:=qz
 rw[e0,xi (λe r h=>by rw[e]at h; exact h.2.2),xi h,xi rfl,xz]
theorem zaS{e:Type}{a:List e}{n:Nat}(h:vS 0 0 0 0 0 a.length n):(T.W (a=[]->∀ r,T.leads (.W (vS 0 0 0 0 0 a.length n)<|.W (zu (0+a.length) 0 (0+a.length) a.length)<|.W (0+a.length=a.length)<|.ret a:T _) r->T.leads (.W (zu 0 0 0 0)<|.W ((0:Nat)=0)<|.ret ([]:List e):T _) r)<|.W (vS 0 0 0 0 0 a.length n)<|oM (0+a.length) a.length<|.ret a:T (List e)).run=some a:=by
 have e0:0+a.length=a.length:=Nat.zero_add _
 rw[xi (λe r h=>by rw[e]at h; exact⟨⟨rfl,rfl,rfl⟩,rfl,h.2.2.2⟩),xi h]
 show(T.W _ (T.W _ _)).run=_
 rw[xi ⟨e0,rfl,e0⟩,xi e0,xz]
theorem zeb(hx:Nat){σ ρ:Type}{b:(σ->T ρ)->σ->T ρ}{x:σ}{y:ρ}(h:∀ k,(Wo b (k+hx) x).run=some y):(T.fix b x).run=some y:=by
 rw[yw,lV]
 exact⟨hx,λm hm=>T.yw.1 (by have:=h (m-hx); rwa [Nat.sub_add_cancel hm]at this)⟩
theorem zlP{σ ρ:Type}{b:(σ->T ρ)->σ->T ρ}{m:Nat}{x:σ}{y:ρ}(h:(b (Wo b m) x).run=some y):(Wo b (m+1) x).run=some y:=h
set_option maxRecDepth 100000 in
set_option maxHeartbeats 20000000 in
theorem z6c:gG.run=some true:=by
 unfold gG
 apply evd
 ·repeat first
    | with_reducible exact xz _
    | with_reducible exact nxR
    | with_reducible apply nxL
    | with_reducible apply z98
    | with_reducible apply z9M
    | (with_reducible apply zeb 6; intro k)
    | with_reducible apply zlP
    | with_reducible apply elL
    | with_reducible apply elR
    | (with_reducible apply zgN; · first | decide +kernel | (intro e r h; rw[e]at h; simpa[T.leads]using h))
    | with_reducible apply zgx (by decide +kernel)
    | with_reducible apply zgw (by decide +kernel)
    | with_reducible exact zaP (by decide +kernel)
    | dsimp only
    | exact zaR (by decide +kernel)
    | exact zaS (by decide +kernel)
    | apply z98
    | (apply zgN; · first | decide +kernel | (intro e r h; rw[e]at h; simpa[T.leads]using h))
    | apply zgx (by decide +kernel)
    | apply zgw (by decide +kernel)
    | apply z9M
    | (apply zeb 6; intro k)
    | exact xz _
 ·kernel_rfl
open T PL
theorem ZL(x:Y8 [qy,.sl fA])(hw:wfL [qy,.sl fA] x)(I:bkL [qy,.sl fA] x<=1048576):(yI (SS [qy,.sl fA] x).1 (SS [qy,.sl fA] x).2).run=some true:=TZ z6c x.1 x.2.1 (z1e x hw I).1 (z1e x hw I).2.1 (z1e x hw I).2.2
end Go.AM.Lf
