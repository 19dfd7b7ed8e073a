/-
  Plain laws of the lifted program, part 2.
-/
import Derived.Test.YtjklmealdnfhfaaGreatDoorLf1
import Derived.Test.YtjklmealdnfhfaaGreatDoorAmA
import Derived.Test.YtjklmealdnfhfaaGreatDoorAmD
import Derived.KernelRfl
import Derived.Test.YtjklmealdnfhfaaGreatDoorQ0
import Derived.Test.YtjklmealdnfhfaaGreatDoorQ1
set_option linter.unusedVariables false
open Nat renaming zero_le -> zA, le_trans -> Y, le_refl -> zF, le_of_eq -> zP
open Int renaming le_refl -> X, lt_of_le_of_lt -> zJ
open Bool renaming and_eq_true_iff -> V, and_eq_true -> zE
open List renaming drop -> zG, isEmpty_iff -> zH, take -> zI, sizeOf_lt_of_mem -> zL, mem_of_getElem? -> zM, isEmpty -> zO
open Sum renaming elim -> zK
open SizeOf renaming sizeOf -> zN
open Go.AM.T (UA Wq XU Xr cI j7 lY oe pn qt so u7 um uu vB vI vM vU vk we wz xi xm xz yA z8 za ze zf zi zj zw)
namespace Go.AM.Lf
open T PL
def zkO{α:Type}(d0:α)(e:α->T zx)(d:List α)(f:Int):(zx×Int)->T ((zx×Int)⊕(zx))
 | (c,a) =>
  .ite (decide (a<f))
   (oI a d <|
    T.bind (e (nth d a d0)) λb =>
    oK ([32]:zx) b <|
    oK c (cat ([32]:zx) b) <|
    .ret (.inl ((cat c (cat ([32]:zx) b)),(qi (a+(1:Int))))))
   (.ret (.inr c))
theorem yD(a b:zx):(cat a b).length=a.length+b.length:=List.length_append
theorem z8I{α:Type}(d0:α)(K:Nat)(e:α->T zx)(l:List α)(c:zx)(he:∀ x∈l,(e x).wp λr=>r.length<=K)(R:c.length+l.length*(K+1)<=1000000000000000)(hn:l.length<=1000000000) :
  (T.bind (T.loop (zkO d0 e l (l.length:Int)) (c,(0:Int))) λa=>oK a ([10]:zx) (.ret (cat a ([10]:zx)))).wp λr=>r.length<=c.length+l.length*(K+1)+1:=by
 refine xm (we (P:=λz=>z.length<=c.length+l.length*(K+1)) ?_ λz hz=>vk (by show z.length+1<=_; omega) (zi (by rw[yD]; show z.length+1<=_; omega)))
 refine vU (σ:=zx×Int) (λz=>∃ k:Nat,z.2=(k:Int)/\k<=l.length/\z.1.length<=c.length+k*(K+1)) (λz=>((l.length:Int)-z.2).toNat) ⟨0,rfl,zA _,by show c.length<=_; omega⟩ ?_
 rintro⟨s,_⟩ ⟨k,rfl,hk,hs⟩
 unfold zkO
 refine zf (λJ => ?_) λJ=>zi ?_
 ·have J:=uB J
  have hw:qi ((k:Int)+1)=k+1:=qp (Z) (Z)
  have h1:(k+1)*(K+1)=k*(K+1)+(K+1):=Nat.succ_mul ..
  have M:(k+1)*(K+1)<=l.length*(K+1):=Nat.mul_le_mul_right _ (Z)
  have hs:s.length<=c.length+k*(K+1):=hs
  refine qt ⟨Z,J⟩ (xm (we (he _ (xw (Z) J)) λb I=>vk (by show 1+b.length<=_; omega) (vk (by rw[yD]; show s.length+(1+b.length)<=_; omega) (zi ?_))))
  rw[hw]
  exact⟨⟨k+1,rfl,Z,by show(cat s (cat [32] b)).length<=_; rw[yD,yD]; show s.length+(1+b.length)<=_; omega⟩,by simp only; omega⟩
 ·have J:=hJ J
  have e:k=l.length:=Z
  subst e
  exact hs
instance (a:Bool):Sp (fg a) True (λr=>r.length<=1):=⟨λ_=>by unfold fg; exact zf (λ_=>zi (zF _)) λ_=>zi (zF _)⟩
instance (a:Int):Sp (lT a) (-1<=a/\a<1000000000000000000) (λr=>r.length<=18):=⟨λh=>by
 unfold lT
 exact zf (λ_=>zi (by show 1<=18; decide)) λe=>z8 ⟨by have:=hJ e; omega,h.2⟩ λb I=>zi I⟩
instance (p:ql):Sp (lU p) (Pn p) (λr=>r.length<=68051):=⟨λh=>by
 have M:rl p.2.2.1<=1700:=h.2
 unfold lU
 exact zf (λ_=>zi (by show 1<=68051; decide)) λ_=>zf (λ_=>z8 ⟨h.1,Z⟩ λb I=>vk (by show b.length+1<=_; omega) (zi (by rw[yD]; show b.length+1<=_; omega))) λ_=>z8 ⟨h.1,Z⟩ λb I=>zi (by show b.length<=_; omega)⟩
instance (l:List Bool) (c:zx):Sp (fV c l λa=>fg a) (l.length<=1000000000/\c.length<=10) (λr=>r.length<=c.length+l.length*2+1):=⟨λh =>
 z8I (zb .bool) 1 _ l c (λ_ _=>Sp.sp trivial) (Z) h.1⟩
instance (l:List Int) (c:zx):Sp (tq c l λa=>lT a) ((l.length<=1000000000/\ou l)/\c.length<=10) (λr=>r.length<=c.length+l.length*19+1):=⟨λh =>
 z8I (zb (.int .i64)) 18 _ l c (λx N=>Sp.sp (h.1.2 x N)) (Z) h.1.1⟩
instance (l:List Lf.Rat) (c:zx):Sp (mG c l λa=>gv a) (rs l/\c.length<=10) (λr=>r.length<=c.length+l.length*68051+1):=⟨λh =>
 z8I (zb zm) 68050 _ l c (λx N=>vB (s:=inferInstance) ⟨(h.1.2 x N).1,by have:=(h.1.2 x N).2; omega⟩ λr hr=>by have:=(h.1.2 x N).2; omega) (by have:=h.1.1; omega) h.1.1⟩
instance (l:List ql) (c:zx):Sp (fW c l λa=>lU a) (Ps l/\c.length<=10) (λr=>r.length<=c.length+l.length*68052+1):=⟨λh =>
 z8I (zb zn) 68051 _ l c (λx N=>Sp.sp (h.1.2 x N)) (by have:=h.1.1; omega) h.1.1⟩
instance (d:qe):Sp (ff d) (Dw d) (λr=>r.length<=68052*(d.1.length+d.2.2.1.length+d.2.2.2.2.1.length)+19*(d.2.1.length+d.2.2.2.1.length+d.2.2.2.2.2.1.length)+100):=⟨λ⟨h1,M,h3,h4,h5,h6,h7⟩=>by
 have k1:=h1.1
 have k3:=h3.1
 have k5:=h5.1
 unfold ff
 refine z8 ⟨h1,xn⟩ λa ha=>z8 ⟨M,xn⟩ λb I=>vk ?_ (z8 ⟨h3,xn⟩ λc hc=>vk ?_ (z8 ⟨⟨h4,h7⟩,xn⟩ λe he=>vk ?_ (z8 ⟨h5,xn⟩ λg hg=>vk ?_ (z8 ⟨h6,xn⟩ λk hk=>vk ?_ (vk ?_ (zi ?_))))))
 all_goals
  simp only[yD,List.length_cons,List.length_nil]at *
  omega⟩
theorem Dx.len{f:Form}{d:qe}(h:Dx f d):68052*(d.1.length+d.2.2.1.length+d.2.2.2.2.1.length)+19*(d.2.1.length+d.2.2.2.1.length+d.2.2.2.2.2.1.length)+100<=1000000000:=by
 obtain⟨-,hV,f1,f2,l1,l2,l3,l4,l5,l6⟩:=h
 have n1:=hV.1.1.1
 have n2:=hV.1.2.1.1
 omega
open T PL
theorem Jm{a b:zx}:wL a b=decide (a=b):=by unfold wL; rw[Bool.eq_iff_iff]; simp
def isD(b:UInt8):Bool:=decide (48<=b.toNat/\b.toNat<=57)
def fQ(s:zx):Bool:=s.all isD
theorem MQ{b:UInt8}:isD b=true↔48<=b.toNat/\b.toNat<=57:=by unfold isD; simp
theorem E3(s t:zx):fQ (s++t)=(fQ s&&fQ t):=by unfold fQ; rw[List.all_append]
theorem XL(b:UInt8)(t:zx):fQ (b::t)=(isD b&&fQ t):=rfl
theorem zaY{s:zx}(h:fQ s=true):dgV s<10 ^ s.length:=by
 have key:∀ (s:zx) (n k:Nat),fQ s=true->n<10 ^ k->s.foldl (λn b=>n*10+(b.toNat-48)) n<10 ^ (k+s.length):=by
  intro s
  induction s with
  | nil=>simp
  | cons b s ih =>
   intro n k J hn
   simp only[fQ,List.all_cons,zE]at J
   have I:=MQ.1 J.1
   have:=ih (n*10+(b.toNat-48)) (k+1) J.2 (by rw[Nat.pow_succ]; omega)
   rw[List.foldl_cons,List.length_cons]
   rwa [show k+(s.length+1)=k+1+s.length by omega]
 have:=key s 0 0 h (qz)
 simpa[dgV]using this
theorem KT(f:Nat->Bool):∀ (n k i:Nat),i<n->Wv .bool (mO .bool n) (Rb (e:=.bool) f n k) i=f (k+i)
 | 0,_,_,h=>Z
 | n+1,k,0,_=>by
  rfl
 | n+1,k,i+1,h=>by
  show Wv .bool (mO .bool n) (Rb (e:=.bool) f n (k+1)) i=_
  rw[KT f n (k+1) i (Z)]
  grind
abbrev dH:zx:=[48,49,50,51,52,53,54,55,56,57]
theorem z5h:∀ c:Fin 256,dH.contains (UInt8.ofNat c.val)=decide (48<=c.val/\c.val<=57):=by decide +kernel
theorem Iq{s:zx}{k:Nat}(h:k<s.length):uv s (k:Int)=((s[k]).toNat:Int):=by
 unfold uv; simp[h]
theorem Iy(b:UInt8)(s:zx):fK 1 (((b::s).length:Nat):Int) (b::s)=s:=by unfold fK; simp
theorem Rn(s:zx)(b:UInt8):fK 0 ((s.length:Nat):Int) (s++[b])=s:=by unfold fK; simp
theorem VH(b:UInt8):(vf (lH dH) (b.toNat:Int)).run=some (isD b):=by
 have I:b.toNat<256:=b.toNat_lt
 unfold vf
 rw[xi ⟨Z,Z⟩,xz]
 unfold lH
 rw[Int.toNat_natCast,KT _ 256 0 _ I,Nat.zero_add]
 exact congrArg some (z5h ⟨b.toNat,I⟩)
theorem Hd(s:zx)(hs:s.length<=1000000000):∃ r,(ju s (lH dH)).run=some r/\fQ r=fQ s/\(fQ r=true->r=[])/\r.length<=s.length:=by
 have:=T.cy (r:=uC (lH dH)) (λt:zx=>fQ t=fQ s/\t.length<=s.length) (λt=>t.length) (λr:zx=>fQ r=fQ s/\(fQ r=true->r=[])/\r.length<=s.length) (λt ht => ?_) (s:=s) ⟨rfl,zF _⟩
 ·obtain⟨r,h1,M⟩:=this
  have h1:(jI (lH dH) s).run=some r:=h1
  unfold ju
  rw[zw h1]
  exact⟨r,rfl,M⟩
 ·rcases List.eq_nil_or_concat t with rfl | ⟨l,b,rfl⟩
  ·right
   refine⟨[],?_,ht.1,λ_=>rfl,qz⟩
   rfl
  ·rw[List.concat_eq_append]at ht ⊢
   have R:(l++[b]).length=l.length+1:=qz
   have e1:qi (((l++[b]).length:Int)-1)=(l.length:Int):=by rw[R,qp (Z) (Z)]; omega
   have e2:uv (l++[b]) (l.length:Int)=(b.toNat:Int):=by rw[Iq (qz)]; simp
   unfold uC
   rw[vI (decide_eq_true (qz)),e1,vM _ (Z) (xy),e2,zw (VH b)]
   cases I:isD b with
   | false =>
    right
    refine⟨_,by rfl,ht.1,λh => ?_,ht.2⟩
    rw[E3,XL,I]at h; simp at h
   | true =>
    left
    refine⟨l,by rw[j7 (by rfl),Xr _ (Z) (Z) (xy),xz,Rn],⟨?_,Z⟩,Z⟩
    rw[<- ht.1,E3,XL,I]; simp[fQ]
theorem D7(s:zx)(hs:s.length<=1000000000):∃ r,(jP s (lH dH)).run=some r/\fQ r=fQ s/\(fQ r=true->r=[]):=by
 have:=T.cy (r:=uW (lH dH)) (λt:zx=>fQ t=fQ s) (λt=>t.length) (λr:zx=>fQ r=fQ s/\(fQ r=true->r=[])) (λt ht => ?_) (s:=s) rfl
 ·obtain⟨r,h1,M⟩:=this
  have h1:(kv (lH dH) s).run=some r:=h1
  unfold jP
  rw[zw h1]
  exact⟨r,rfl,M⟩
 ·cases t with
  | nil =>
   right
   refine⟨[],?_,ht,λ_=>rfl⟩
   rfl
  | cons b l =>
   have e2:uv (b::l) 0=(b.toNat:Int):=rfl
   unfold uW
   rw[vI (decide_eq_true (qz)),vM _ (Z) (qz),e2,zw (VH b)]
   cases I:isD b with
   | false =>
    right
    refine⟨_,by rfl,ht,λh => ?_⟩
    rw[XL,I]at h; simp at h
   | true =>
    left
    refine⟨l,by rw[j7 (by rfl),Xr _ (Z) (xy) (Z),xz,Iy],?_,qz⟩
    rw[<- ht,XL,I]; rfl
theorem BT:∀ (j:Nat) b,dH[j]? = some b->b.toNat<128:=by
 intro j b h
 have:b∈dH:=zM h
 simp at this
 rcases this with rfl | rfl | rfl | rfl | rfl | rfl | rfl | rfl | rfl | rfl<;>decide
theorem K5(s:zx)(hs:s.length<=1000000000)(hn:s≠[]):∃ r,(cj s dH).run=some r/\wL r []=fQ s:=by
 obtain⟨r1,a1,a2,a3,a4⟩:=Hd s hs
 obtain⟨r,b1,b2,b3⟩:=D7 r1 (Z)
 refine⟨r,?_,?_⟩
 ·have hm:(strings_makeASCIISet dH).run=some (lH dH,true):=by
   unfold strings_makeASCIISet
   rw[xi ⟨xn,BT⟩,xz]
  have e1:wL s []=false:=by rw[Jm]; simpa using hn
  unfold cj
  rw[j7 (by rw[e1]; rfl),xi (λh=>xy),j7 (by rfl),zw hm,UA,zw a1,zw b1,xz]
 ·rw[Jm]
  rw[a2]at b2
  cases h:fQ s with
  | true=>grind
  | false =>
   rw[h]at b2
   refine decide_eq_false λz => ?_
   subst z; cases b2
instance (b:Bool):Sp (uw b) True (λr=>r.elim (λ_=>b=true) λ_=>b=false):=⟨λ_=>by unfold uw; exact zf (λe=>zi (by simpa using e)) λe=>zi (by simpa using e)⟩
instance (a:zx):Sp (mC a) (a.length<=1000000000) (λr=>r.elim (λn=>0<=n/\n<1000000000000000000) λ_=>True):=⟨λh=>by
 unfold mC
 refine xm (we (P:=λz:Unit⊕Unit=>z.elim (λ_=>a≠[]/\a.length<=18/\fQ a=true) λ_=>True) (zf (λe=>zf (λe2 => ?_) λ_=>z8 trivial λz hz => ?_) λ_=>z8 trivial λz hz => ?_) λz hz => ?_)
 ·have e1:a≠[]:=by rw[Jm]at e; simpa using e
  obtain⟨r,h1,M⟩:=K5 a h e1
  refine xm (cI h1 (z8 trivial λz hz => ?_))
  rcases z with z | z
  ·have e2:=uB e2
   exact zi ⟨e1,Z,M.symm.trans hz⟩
  ·exact zi trivial
 ·rcases z with z | z
  ·cases hz
  ·exact zi trivial
 ·rcases z with z | z
  ·cases hz
  ·exact zi trivial
 ·rcases z with z | z
  ·obtain⟨h1,M,h3⟩:=hz
   have h4:=zaY h3
   have h5:10 ^ a.length<=10 ^ 18:=Nat.pow_le_pow_right (xn) M
   unfold strconv_Atoi
   refine xm (zj ⟨⟨h1,M⟩,λb I=>MQ.1 (List.all_eq_true.1 h3 b I)⟩ (zi (z8 trivial λz hz => ?_)))
   rcases z with z | z
   ·exact zi ⟨by show(0:Int)<=(dgV a:Nat); omega,by show((dgV a:Nat):Int)<_; omega⟩
   ·exact zi trivial
  ·exact zi trivial⟩
open T PL
def z9j{α:Type}(k:Nat)(e:zx->T (α⊕Unit))(d:List zx)(f:Int):(Int×List α)->T ((Int×List α)⊕(List α⊕(Unit×List α)))
 | (b,a) =>
  .ite (decide (b<f))
   (oI b d <|
    T.bind (e (nth d b (zb .str))) <|
     zK (λc =>
      oA a k <|
      oM (a.length+(1:Nat)) (a++([c]:List α)).length <|
      .ret (.inl ((qi (b+(1:Int))),(a++([c]:List α)))))
     (λe =>
      U a <|
      .ret (.inr (.inr (e,a)))))
   (oC a <|
    U a <|
    .ret (.inr (.inl a)))
theorem MC{α:Type}(k:Nat)(hk:k<=64)(e:zx->T (α⊕Unit))(l:List zx)(P:α->Prop)(he:∀ s∈l,(e s).wp λr=>r.elim P λ_=>True)(hn:l.length<=1000000000) :
  (oZ (T.bind (T.loop (z9j k e l (l.length:Int)) ((0:Int),([]:List α))) (zK (λa=>oC a (U a (.ret (.inl a)))) λz=>.ret (.inr z.1))):T (List α⊕Unit)).wp λr=>r.elim (λa=>a.length<=1000000000/\∀ x∈a,P x) λ_=>True:=by
 refine zj ⟨rfl,rfl,rfl⟩ (zj rfl (xm (we (P:=λz:List α⊕(Unit×List α)=>z.elim (λa=>a.length<=1000000000/\∀ x∈a,P x) λ_=>True) ?_ λz hz => ?_)))
 ·refine vU (σ:=Int×List α) (λz=>0<=z.1/\z.1<=l.length/\(z.2.length:Int)=z.1/\∀ x∈z.2,P x) (λz=>((l.length:Int)-z.1).toNat) ⟨X _,by show(0:Int)<=_; omega,rfl,nofun⟩ ?_
  rintro⟨i,a⟩ ⟨i0,i1,ha,hp⟩
  dsimp only at i0 i1 ha hp
  unfold z9j
  refine zf (λJ => ?_) λJ=>ze (za (zi ⟨Z,hp⟩))
  have J:=uB J
  have hw:qi (i+1)=i+1:=qp (Z) (Z)
  refine qt ⟨i0,J⟩ (xm (we (he _ (xw i0 J)) λz hz => ?_))
  rcases z with c | c
  ·have hm:(a.length+1)*k<=(a.length+1)*64:=Nat.mul_le_mul_left _ hk
   refine u7 (Z) (uu (Jc _ _).symm (zi ?_))
   rw[hw]
   exact⟨⟨by show 0<=i+1; omega,by show i+1<=_; omega,by show((a++[c]).length:Int)=i+1; rw[Jc]; omega,yT hp hz⟩,by simp only; omega⟩
  ·exact za (zi trivial)
 ·rcases z with z | z
  ·exact ze (za (zi hz))
  ·exact zi trivial
def bL(l:List zx):Prop:=l.length<=1000000000/\∀ s∈l,s.length<=1000000000
instance (s:zx):Sp (dc s) True (λr=>r.elim (λa=>rg a/\rl a<=1700) λ_=>True):=⟨λ_=>by
 unfold dc
 refine z8 trivial λa ha=>z8 trivial λz _ => ?_
 rcases z with z | z
 ·exact zi ha
 ·exact zi trivial⟩
instance (s:zx):Sp (mD s) True (λr=>r.elim (λ_=>True) λ_=>True):=⟨λ_=>by
 unfold mD
 refine zf (λ_=>z8 trivial λz _ => ?_) λ_=>z8 trivial λz _ => ?_
 ·rcases z with z | z<;>exact zi trivial
 ·rcases z with z | z<;>exact zi trivial⟩
instance (s:zx):Sp (mE s) (s.length<=1000000000) (λr=>r.elim (λn => -1<=n/\n<1000000000000000000) λ_=>True):=⟨λh=>by
 unfold mE
 refine zf (λ_=>zi (by show(-1:Int) <= -1/\(-1:Int)<1000000000000000000; decide)) λ_=>z8 h λz hz => ?_
 rcases z with z | z
 ·exact zi ⟨by have:0<=z:=hz.1; show -1<=z; omega,hz.2⟩
 ·exact zi trivial⟩
instance (a b:zx):Sp (strings_CutSuffix a b) (a.length<=1000000000/\b.length<=1000000000) (λ_=>True):=⟨λ⟨h,k⟩=>by
 have hw:qi ((a.length:Int)-b.length)=a.length-b.length:=qp (Z) (Z)
 unfold strings_CutSuffix jW jY
 rw[hw]
 refine xm (xm (zj (λe => ?_) (zi (zf (λ_=>zi (zi trivial)) λe=>zj ?_ (zi (zi trivial))))))
 ·have:=uB e
  exact⟨Z,Z,Z⟩
 ·have:(b.length:Int)<=a.length:=by
   by_cases q:(b.length:Int)<=a.length
   ·exact q
   ·rw[decide_eq_false q]at e; cases e
  exact⟨Z,Z,Z⟩⟩
instance (s:zx):Sp (mF s) (s.length<=1000000000) (λr=>r.elim Pn λ_=>True):=⟨λh=>by
 unfold mF
 refine zf (λ_=>z8 ⟨xn,xn⟩ λa ha=>zi ⟨ha.1,?_⟩) λ_=>z8 ⟨h,xn⟩ λx _=>z8 trivial λz hz => ?_
 ·have M:rl a<=2:=ha.2
  exact Y M (xn)
 ·rcases z with z | z
  ·exact zi hz
  ·exact zi trivial⟩
instance (b:List zx) (u:Unit):Sp (uL b u) (bL b) (λr=>r.elim rs λ_=>True):=⟨λh=>MC 56 (xn) _ b _ (λ_ _=>Sp.sp trivial) h.1⟩
instance (b:List zx) (u:Unit):Sp (uM b u) (bL b) (λr=>r.elim (λa=>a.length<=1000000000/\∀ x∈a,True) λ_=>True):=⟨λh=>MC 1 (xn) _ b (λ_=>True) (λ_ _=>Sp.sp trivial) h.1⟩
instance (b:List zx) (u:Unit):Sp (kV b u) (bL b) (λr=>r.elim (λa=>a.length<=1000000000/\ou a) λ_=>True):=⟨λh=>MC 8 (xn) _ b _ (λs hs=>Sp.sp (h.2 s hs)) h.1⟩
instance (b:List zx) (u:Unit):Sp (ji b u) (bL b) (λr=>r.elim Ps λ_=>True):=⟨λh=>MC 64 (xn) _ b _ (λs hs=>Sp.sp (h.2 s hs)) h.1⟩
instance (a:gE):Sp (b9 a) (a.1.length<=1000000000) (λr=>r.elim (λz=>z.1.length<=1000000000/\z.2.1.length<=1000000000/\z.1.length<1000000000+1) λ_=>True):=⟨λh=>by
 unfold b9
 refine z8 h λ⟨b,c,d⟩ hz=>z8 trivial λz _ => ?_
 have hz:b.length+c.length<=a.1.length:=hz
 rcases z with z | z
 ·exact zi ⟨by show b.length<=_; omega,by show c.length<=_; omega,by show b.length<_; omega⟩
 ·exact zi trivial⟩
instance (w:zx) (a:gE):Sp (wO w a) (a.1.length<=1000000000) (λr=>r.elim (λz=>bL z.1/\z.2.1.length<=1000000000) λ_=>True):=⟨λh=>by
 unfold wO
 refine z8 h λz hz => ?_
 rcases z with⟨c,b⟩ | z
 ·obtain⟨h1,M,-⟩:=hz
  have h1:c.length<=1000000000:=h1
  have M:b.1.length<=1000000000:=M
  have h3:=z2Z 32 c
  have h4:(lj 32 c).length<=tC (lj 32 c)/\(lj 32 c=[]->tC (lj 32 c)=0):=by
   generalize lj 32 c=l
   refine⟨?_,λe=>by rw[e]; rfl⟩
   induction l with
   | nil=>exact zA _
   | cons a l ih=>unfold tC at *; simp; omega
  have h5:1<=(lj 32 c).length:=by
   rcases Nat.eq_zero_or_pos (lj 32 c).length with e | e
   ·have:=h4.2 (List.eq_nil_of_length_eq_zero e); omega
   ·exact e
  unfold strings_Split
  refine xm (zj ⟨Z,rfl⟩ (zi (qt ⟨xn,by show(0:Int)<(lj 32 c).length; omega⟩ (z8 trivial λz _ => ?_))))
  rcases z with z | z
  ·refine zj ⟨xn,by show(1:Int)<=(lj 32 c).length; omega,X _⟩ (zi ⟨⟨?_,λs hs => ?_⟩,M⟩)
   ·show(zG _ (zI _ (lj 32 c))).length<=_
    rw[List.length_drop,List.length_take]
    show min _ _-1<=_
    omega
   ·exact Y (h3.2 s (List.mem_of_mem_take (List.mem_of_mem_drop hs))) h1
  ·exact zi trivial
 ·exact zi trivial⟩
theorem cu0:zp 0 0 0 0:=⟨rfl,rfl,rfl⟩
instance (a:Int):Sp (fS a) True (λr=>r=a):=⟨λ_=>by unfold fS; exact um rfl (zi rfl)⟩
instance (u:Unit) (a:Int):Sp (wC u a) True (λr=>r=2):=⟨λ_=>by unfold wC; exact wz rfl (um rfl (zi rfl))⟩
theorem J2{p:Prop} (h:p:=by
 refine z8 trivial λ_ e => ?_
 subst e
 repeat' (with_reducible first | refine za ?_ | refine ze ?_ | refine zj cu0 ?_ | refine zj (Eq.refl 0) ?_)
 exact zi (nz (a:=2) (xn))):p:=h
abbrev R8(r:Unit×Int×List Lf.Rat×List Bool×List Lf.Rat×List Int×List ql×List Bool):qe:=(r.2.2.1,r.2.2.2.1,r.2.2.2.2.1,r.2.2.2.2.2.1,r.2.2.2.2.2.2.1,r.2.2.2.2.2.2.2,())
instance (s:zx):Sp (oB s) (s.length<=1000000000) (λr=>r.2.1=0->Dw (R8 r)):=⟨λhs=>by
 unfold oB
 refine z8 hs λz hz => ?_
 rcases z with⟨k,l⟩ | ⟨y,l⟩
 rotate_left
 ·exact J2
 refine z8 hz.1 λz h1 => ?_
 rcases z with a | z
 rotate_left
 ·exact J2
 have R:l.1.length<=1000000000:=hz.2
 clear hz
 refine z8 R λz hz => ?_
 rcases z with⟨k,l⟩ | ⟨y,l⟩
 rotate_left
 ·exact J2
 refine z8 hz.1 λz M => ?_
 rcases z with b | z
 rotate_left
 ·exact J2
 have R:l.1.length<=1000000000:=hz.2
 clear hz
 refine z8 R λz hz => ?_
 rcases z with⟨k,l⟩ | ⟨y,l⟩
 rotate_left
 ·exact J2
 refine z8 hz.1 λz h3 => ?_
 rcases z with c | z
 rotate_left
 ·exact J2
 have R:l.1.length<=1000000000:=hz.2
 clear hz
 refine z8 R λz hz => ?_
 rcases z with⟨k,l⟩ | ⟨y,l⟩
 rotate_left
 ·exact J2
 refine z8 hz.1 λz h4 => ?_
 rcases z with d | z
 rotate_left
 ·exact J2
 have R:l.1.length<=1000000000:=hz.2
 clear hz
 refine z8 R λz hz => ?_
 rcases z with⟨k,l⟩ | ⟨y,l⟩
 rotate_left
 ·exact J2
 refine z8 hz.1 λz h5 => ?_
 rcases z with e | z
 rotate_left
 ·exact J2
 have R:l.1.length<=1000000000:=hz.2
 clear hz
 refine z8 R λz hz => ?_
 rcases z with⟨k,l⟩ | ⟨y,l⟩
 rotate_left
 ·exact J2
 refine z8 hz.1 λz h6 => ?_
 rcases z with f | z
 rotate_left
 ·exact J2
 dsimp only[Sum.elim_inl]
 rw[cm,cm,cm,cm,cm,cm]
 have hD:Dw (a,b,c,d,e,f,()):=⟨h1,M.1,h3,h4.1,h5,h6.1,h4.2⟩
 refine z8W (z8 hD λv _=>z8 trivial λz _ => ?_)
 rcases z with z | z
 rotate_left
 ·exact J2
 refine z8 trivial λw _ => ?_
 repeat' (with_reducible first | refine za ?_ | refine ze ?_)
 exact zi λ_=>hD⟩
instance (f:Form) (s:zx):Sp (sF f s) (FW 8200 f/\s.length<=1000000000) (λr=>r.2=0->Dx f r.1):=⟨λ⟨hF,hs⟩=>by
 unfold sF
 refine z8 hs λ⟨l,g,a,b,c,d,e,h⟩ hz => ?_
 dsimp only
 rw[cm,cm,cm,cm,cm,cm]
 refine zf (λq=>zi (nz (by simpa using q))) λq=>z8W (z8 ⟨hF,hz (by simpa using q)⟩ λi hi=>zf (λ_=>zi (nz (a:=1) (xn))) λq2=>z8W (zi λ_=>hi (by simpa using q2)))⟩
open T PL
def vh(v:wk):Prop:=v.1.length<=20000/\v.2.1.length<=20000/\rs v.2.2.1
instance (f:Form) (l:List Lf.Rat):Sp (r8 f l) (FV f/\rs l) (λr=>vh r):=⟨λh=>by
 obtain⟨h1,_⟩:=FV.fe h.1
 have M:l.length<=1000000000:=h.2.1
 unfold r8 vh
 exact goe⟩
instance (d:zx) (a:wk) (g:List Lf.Rat):Sp (VA d a g) (vh a/\rs g) (λr=>rg r.1/\rl r.1<=1700):=⟨λ⟨⟨h1,M,h3⟩,hg⟩=>by
 unfold VA
 exact z8 (Z) λb I=>zf (λ_=>z8 hg λe he=>zi ⟨he.1,he.2.1⟩) λ_=>z8 (Z) λc hc=>zf (λ_=>zi ⟨Xs.1,Y (zP Xs.2) (xn)⟩) λ_=>z8 h3 λf hf=>zi ⟨hf.1,hf.2.1⟩⟩
instance (e:Expr) (v:wk) (l:List Lf.Rat):Sp (Zl e v l) (EK e/\vh v/\rs l) (λr=>rg r.1/\rl r.1<=440000):=⟨λh=>by
 obtain⟨⟨n,hn,he⟩,hv,R⟩:=h
 unfold Zl
 refine we (P:=λr=>∀ n,EO n e->rg r.1/\rl r.1<=1710*n) ?_ λr hr=>by have:=hr n he; exact⟨this.1,Z⟩
 refine so (x:=(e,v,l)) (λ(e,v,l)=>(∃ n,n<=256/\EO n e)/\vh v/\rs l) (λ(e,_)=>zN e) (λ(e,_) (r:Lf.Rat×Int)=>∀ n,EO n e->rg r.1/\rl r.1<=1710*n) ?_ ?_ ⟨⟨n,hn,he⟩,hv,R⟩
 ·intro g g' hg x
  unfold ya
  exact mono
 ·intro⟨e,v,l⟩ ⟨⟨n,hn,he⟩,hv,R⟩ g hg
  have z:rg (false,[],[],())/\rl (false,[],[],())<=0:=⟨Xs.1,zP Xs.2⟩
  have hq:∀ {n'},EO n' e->n'=n:=λh=>h.uniq he
  suffices (ya (λy0 y1 y2=>g (y0,y1,y2)) e v l).wp λr=>rg r.1/\rl r.1<=1710*n from we this λr hr n' h=>by rw[hq h]; exact hr
  clear hq
  cases he with
  | num h1 M =>
   unfold ya
   simp only[Expr.kids,Expr.kind,Expr.num,Expr.name]
   exact um rfl Eh
  | nam h1 =>
   unfold ya
   simp only[Expr.kids,Expr.kind,Expr.num,Expr.name]
   exact wz rfl (um rfl Eh)
  | @neg m s i a h1 =>
   have ha:Sp (g (a,v,l)) True (λr=>rg r.1/\rl r.1<=1710*i):=⟨λ_=>we (hg (a,v,l) ⟨⟨i,Z,h1⟩,hv,R⟩ (by simp<;>omega)) λr hr=>hr i h1⟩
   unfold ya
   simp only[Expr.kids,Expr.kind,Expr.num,Expr.name]
   clear hg
   refine wz rfl (wz rfl (qt ⟨Z,qz⟩ ?_))
   rw[show nth [a] 0 (zb .expr)=a from rfl]
   refine z8 trivial λr hr=>zf (λ_=>zi ?_) λ_=>um rfl ?_
   ·grind
   ·exact Eh
  | @bin k m s i j a b h1 M h3 h4 =>
   have ha:Sp (g (a,v,l)) True (λr=>rg r.1/\rl r.1<=1710*i):=⟨λ_=>we (hg (a,v,l) ⟨⟨i,Z,h3⟩,hv,R⟩ (by simp<;>omega)) λr hr=>hr i h3⟩
   have I:Sp (g (b,v,l)) True (λr=>rg r.1/\rl r.1<=1710*j):=⟨λ_=>we (hg (b,v,l) ⟨⟨j,Z,h4⟩,hv,R⟩ (by simp<;>omega)) λr hr=>hr j h4⟩
   unfold ya
   simp only[Expr.kids,Expr.kind,Expr.num,Expr.name]
   clear hg
   refine wz (xy) (wz (xy) (qt ⟨Z,by simp<;>omega⟩ ?_))
   rw[show nth [a,b] 0 (zb .expr)=a from rfl,show nth [a,b] 1 (zb .expr)=b from rfl]
   refine z8 trivial λr hr=>zf (λ_=>zi ?_) λ_=>wz (xy) (qt ⟨Z,qz⟩ ?_)
   ·grind
   ·exact Eh⟩
instance (e:Expr) (v:wk) (l:List Lf.Rat):Sp (tI e v l) (EW KK e/\vh v/\rs l) (λr=>rg r.1/\rl r.1<=440000):=⟨λ⟨h1,M,h3⟩=>by
 unfold tI
 exact z8 h1 λb I=>zf (λ_=>zi ⟨Xs.1,Y (zP Xs.2) (xn)⟩) λe=>z8 ⟨I (by simpa using e),M,h3⟩ λz hz=>zi hz⟩
instance (c:Check) (v:wk) (l:List Lf.Rat):Sp (oS c v l) (EW KK c.2.2.2.1/\EW KK c.2.2.2.2.1/\vh v/\rs l) (λ_=>True):=⟨λ⟨h1,M,h3⟩=>by
 unfold oS
 refine z8 ⟨h1,h3⟩ λx N=>z8 ⟨M,h3⟩ λy hy=>zf (λ_=>zi trivial) λ_=>z8 ⟨N.1,hy.1,?_⟩ λb _=>zf (λ_=>zi trivial) λ_=>zf (λ_=>zi trivial) λ_=>zi trivial
 have MN:=N.2
 have hy2:=hy.2
 omega⟩
open T PL
abbrev M3:=Int×wk×List zx
theorem zgN(f:Form)(d:qe)(i:Int)(x:List Bool)(p q:Int)(g:List Field)(e:wk)(b:List zx)(hg:g.length<=64)(I:b.length<=100000000) :
  (iN f d i x p q g (g.length:Int) (0,e,b)).wp λr=>∃ c:List zx,r=(e,c)/\c.length<=b.length+64:=by
 unfold iN
 refine vU (λz:M3=>∃ (k:Int) (c:List zx),z=(k,e,c)/\0<=k/\k<=g.length/\(c.length:Int)<=b.length+k) (λz:M3=>((g.length:Int)-z.1).toNat) ⟨0,b,rfl,xn,Z,Z⟩ ?_
 rintro _ ⟨k,c,rfl,k0,k1,hc⟩
 unfold iQ
 refine zf (λJ => ?_) λJ=>ze (za (zi ⟨c,rfl,Z⟩))
 have J:=uB J
 have hw:qi (k+1)=k+1:=qp (Z) (Z)
 refine qt ⟨k0,J⟩ (zj (λ_ _ h=>⟨k0,by have:=hJ h; omega⟩) (zf (λ_=>u7 (Z) (uu (Jc _ _).symm (zi ?_))) λ_=>ze (za (zi ?_))))
 ·rw[hw]
  exact⟨⟨k+1,_,rfl,Z,Z,by rw[Jc]; omega⟩,by simp only; omega⟩
 ·rw[hw]
  exact⟨⟨k+1,_,rfl,Z,Z,Z⟩,by simp only; omega⟩
theorem zgO(f:Form)(d:qe)(i:Int)(x:List Bool)(p q:Int)(g:List Check)(e:wk)(b:List zx)(hg:g.length<=8200/\∀ x∈g,EW KK x.2.2.2.1/\EW KK x.2.2.2.2.1)(hv:vh e/\rs d.2.2.1)(I:b.length<=100000000) :
  (iO f d i x p q g (g.length:Int) (0,e,b)).wp λr=>∃ c:List zx,r=(e,c)/\c.length<=b.length+8200:=by
 have T0:=hg.1
 unfold iO
 refine vU (λz:M3=>∃ (k:Int) (c:List zx),z=(k,e,c)/\0<=k/\k<=g.length/\(c.length:Int)<=b.length+k) (λz:M3=>((g.length:Int)-z.1).toNat) ⟨0,b,rfl,xn,Z,Z⟩ ?_
 rintro _ ⟨k,c,rfl,k0,k1,hc⟩
 unfold iR
 refine zf (λJ => ?_) λJ=>ze (za (zi ⟨c,rfl,Z⟩))
 have J:=uB J
 have hw:qi (k+1)=k+1:=qp (Z) (Z)
 have N:=hg.2 _ (xw (d:=zb xj) k0 J)
 refine qt ⟨k0,J⟩ (xm (we (P:=λz=>∃ (q:Bool) (h:Check),z=(q,e,c,h)) (zf (λ_=>z8 ⟨N.1,N.2,hv⟩ λq _=>ze (za (zi ⟨_,_,rfl⟩))) λ_=>ze (za (zi ⟨_,_,rfl⟩))) ?_))
 rintro _ ⟨q,h,rfl⟩
 refine zf (λ_=>u7 (Z) (uu (Jc _ _).symm (zi ?_))) λ_=>ze (za (zi ?_))
 ·rw[hw]
  exact⟨⟨k+1,_,rfl,Z,Z,by rw[Jc]; omega⟩,by simp only; omega⟩
 ·rw[hw]
  exact⟨⟨k+1,_,rfl,Z,Z,Z⟩,by simp only; omega⟩
instance (f:Form) (d:qe):Sp (iM f d) (Dx f d) (λr=>r.length<=70000000):=⟨λ⟨hD,hV,f1,_⟩=>by
 have n3:=hV.1.2.2.1.1
 have n6:=hV.1.2.2.2.2.2
 unfold iM
 refine z8 ⟨hV,hD.1⟩ λe he=>z8 hV.1 λx N=>zj cu0 (zj rfl (xm (we (P:=λz=>z.2.length<=70000000) ?_ λz hz=>za (zi (by rw[cm]; exact hz)))))
 unfold sV
 refine vU (λz:M3=>∃ (k:Int) (c:List zx),z=(k,e,c)/\0<=k/\k<=x.length/\(c.length:Int)<=8264*k) (λz:M3=>((x.length:Int)-z.1).toNat) ⟨0,[],rfl,xn,Z,xn⟩ ?_
 rintro _ ⟨k,c,rfl,k0,k1,hc⟩
 unfold iP
 refine zf (λJ => ?_) λJ=>ze (za (zi (by show c.length<=_; omega)))
 have J:=uB J
 have hw:qi (k+1)=k+1:=qp (Z) (Z)
 refine qt ⟨k0,J⟩ (zf (λ_=>ze (za (zi ?_))) λ_=>ze (za (xm (we (zgN f d k x _ k f.2.2.2.1 e c f1 (Z)) ?_))))
 ·rw[hw]
  exact⟨⟨k+1,_,rfl,Z,Z,Z⟩,by simp only; omega⟩
 ·rintro _ ⟨c1,rfl,h1⟩
  refine ze (za (xm (we (zgO f d k x _ k f.2.2.2.2.2.1 e c1 ⟨n6.1,λy hy=>(n6.2 y hy).2⟩ ⟨he,hD.2.2.1⟩ (Z)) ?_)))
  rintro _ ⟨c2,rfl,M⟩
  refine ze (za (zi ?_))
  rw[hw]
  exact⟨⟨k+1,_,rfl,Z,Z,Z⟩,by simp only; omega⟩⟩
def it(l:List Param):Prop:=∀ x∈l,x.1.length<=24/\rg x.2.1/\rl x.2.1<=1700
instance (f:Form) (d:qe):Sp (W9 f d) (Dx f d) (λr=>it r/\r.length<=64):=⟨λ⟨hD,hV,f1,_⟩=>by
 have hn:=λx N=>(hV.2.2.2.2.1 x N).1
 have n3:=hV.1.2.2.1.1
 unfold W9
 refine z8 hV.1 λo ho=>zj cu0 (zj rfl (xm (we (P:=λz=>it z/\z.length<=64) ?_ λz hz=>za (zi (by rw[cm]; exact hz)))))
 unfold Ux
 refine vU (λz:Int×List Param=>0<=z.1/\z.1<=f.2.2.2.1.length/\(z.2.length:Int)<=z.1/\it z.2) (λz=>((f.2.2.2.1.length:Int)-z.1).toNat) ⟨X _,by show(0:Int)<=_; omega,X _,nofun⟩ ?_
 rintro⟨k,a⟩ ⟨k0,k1,ha,hi⟩
 dsimp only at k0 k1 ha hi
 unfold Q6
 refine zf (λJ => ?_) λJ=>ze (za (zi ⟨hi,Z⟩))
 have J:=uB J
 have hw:qi (k+1)=k+1:=qp (Z) (Z)
 have N:=hn _ (xw (d:=zb qv) k0 J)
 refine qt ⟨k0,J⟩ (zj (λh1 M=>⟨Int.not_lt.1 (hJ h1),Int.not_le.1 (hJ M)⟩) (zf (λ_=>ze (za (zi ?_))) λ_=>z8 ⟨xn,xn⟩ λj hj=>xm (we (P:=λz=>∃ r:Lf.Rat,z=(a,nth f.2.2.2.1 k (zb qv),r)/\rg r/\rl r<=1700) (zf (λhv => ?_) λ_=>ze (za (zi ⟨j,rfl,hj.1,?_⟩))) ?_)))
 ·rw[hw]
  exact⟨⟨by show 0<=k+1; omega,by show k+1<=_; omega,by show(a.length:Int)<=k+1; omega,hi⟩,by simp only; omega⟩
 ·have hv:=uB hv
  have q:=CZ hD.2.2.1 k k0 hv
  refine qt ⟨k0,hv⟩ (z8 ⟨q.1,Y q.2 (xn)⟩ λr hr=>ze (za (zi ⟨r,rfl,hr.1,?_⟩)))
  have:=hr.2.1
  have:=q.2
  omega
 ·have:=hj.2; omega
 ·rintro _ ⟨r,rfl,hr,hr2⟩
  refine u7 (Z) (uu (Jc _ _).symm (zi ?_))
  rw[hw]
  exact⟨⟨by show 0<=k+1; omega,by show k+1<=_; omega,by show((a++[_]).length:Int)<=k+1; rw[Jc]; omega,yT hi ⟨N,hr,hr2⟩⟩,by simp only; omega⟩⟩
instance (l:List Param):Sp (mL l) (it l/\l.length<=64) (λ_=>True):=⟨λ⟨hi,hn⟩=>by
 unfold mL
 refine zj cu0 (zj rfl (xm (we (P:=λz=>bt z.2/\z.2.length<=10000000) ?_ λz hz=>ze (za ?_))))
 ·unfold Z8
  refine vU (λz:Int×Unit×List Int=>0<=z.1/\z.1<=l.length/\bt z.2.2/\(z.2.2.length:Int)<=70000*z.1) (λz=>((l.length:Int)-z.1).toNat) ⟨X _,by show(0:Int)<=_; omega,(λ_ h=>nomatch h),xn⟩ ?_
  rintro⟨k,u,a⟩ ⟨k0,k1,I,ha⟩
  dsimp only at k0 k1 I ha
  unfold mj
  refine zf (λJ => ?_) λJ=>ze (za (zi ⟨I,by show a.length<=_; omega⟩))
  have J:=uB J
  have hw:qi (k+1)=k+1:=qp (Z) (Z)
  obtain⟨x1,x2,x3⟩:=hi _ (xw (d:=zb qf) k0 J)
  refine qt ⟨k0,J⟩ (vk (by show _+1<=_; omega) (z8 ⟨x2,Y x3 (xn)⟩ λs hs => ?_))
  have hs:s.length<=40*rl (nth l k (zb qf)).2.1+50:=hs
  have l1:(cat (nth l k (zb qf)).1 [32]).length=(nth l k (zb qf)).1.length+1:=yD _ _
  have l2:(cat (cat (nth l k (zb qf)).1 [32]) s).length=(nth l k (zb qf)).1.length+1+s.length:=by rw[yD,l1]
  have l3:(cat (cat (cat (nth l k (zb qf)).1 [32]) s) [10]).length=(nth l k (zb qf)).1.length+1+s.length+1:=by rw[yD,l2]; rfl
  refine vk (Z) (vk (by rw[l2]; show _+1<=_; omega) (ze (za (z8 (by rw[l3]; omega) λ⟨h,i,e⟩ he=>ze (za (zi ?_))))))
  have he:e=a++bytesOf _:=he
  subst he
  rw[hw]
  exact⟨⟨by show 0<=k+1; omega,by show k+1<=_; omega,BX I _,by show((a++bytesOf _).length:Int)<=_; rw[List.length_append,Z0,l3]; omega⟩,by simp only; omega⟩
 ·unfold pF z3a
  exact xm (zj ⟨hz.1,Y hz.2 (xn)⟩ (zi (zi trivial)))⟩
open T PL
def Ei(e:zl):Prop:=Dx e.1 e.2.1/\Hw e.2.2.1/\pl e.2.2.2.1
def An(e:zl)(r:Answer×zl):Prop:=Ei r.2/\r.1.2.1.length<=70000000/\r.2.1=e.1/\(r.1.1≠0->r.2=e/\r.1.2.2.1=[])
def Pu(e e':zl):Prop:=e'.2.2.1.1.length=min 32 (e.2.2.1.1.length+1)/\e'.2.2.1.2.1.length=0
def Un(e e':zl):Prop:=e'.2.2.1.1.length+1=e.2.2.1.1.length/\e'.2.2.1.2.1.length=e.2.2.1.2.1.length+1
def Re(e e':zl):Prop:=e'.2.2.1.1.length=e.2.2.1.1.length+1/\e'.2.2.1.2.1.length+1=e.2.2.1.2.1.length
theorem An.er{e:zl}(h:Ei e)(n:Int)(l:List zx)(R:l.length<=70000000):An e ((n,l,[],()),e):=⟨h,R,rfl,λ_=>⟨rfl,rfl⟩⟩
instance (d:qe) (l:List zx) (n:Int) (e:zl):Sp (vw d l n e) (Ei e/\(n=0->Dx e.1 d)/\l.length<=1) (λr=>An e r/\(r.1.1=0->Pu e r.2)/\(r.1.1≠0->r.2.2.2.1=e.2.2.1)):=⟨λ⟨he,J,R⟩=>by
 have hF:FW 8200 e.1:=he.1.2.1.1
 unfold vw
 refine zf (λh=>zi ⟨An.er he n l (Z),nz (by simpa using h),λ_=>rfl⟩) λh => ?_
 have J:=J (by simpa using h)
 refine z8 he.1.1 λs hs=>z8 ⟨he.2.1,Y hs he.1.len⟩ λc hc=>z8 ⟨hF,he.2.2⟩ λg hg=>zi ⟨⟨⟨J,hc.1,hg⟩,zA _,rfl,nofun⟩,λ_=>hc.2,nofun⟩⟩
instance (i n:Int) (e:zl):Sp (jL i n e) (Ei e/\(n=0->pl i)) (λr=>An e r/\r.2.2.2.1=e.2.2.1/\r.2.2.1=e.2.1):=⟨λ⟨he,hi⟩=>by
 unfold jL
 exact zf (λh=>zi ⟨An.er he n [] (zA _),rfl,rfl⟩) λh=>zi ⟨⟨⟨he.1,he.2.1,hi (by simpa using h)⟩,zA _,rfl,nofun⟩,rfl,rfl⟩⟩
theorem OG(f:Form->List Bool->Int->T (Int×Bool))(hf:∀ x l a,FW 8200 x/\pl a->(f x l a).wp λr=>pl r.1)(e:zl)(he:Ei e):(j6 f e).wp λr=>An e r/\r.2.2.2.1=e.2.2.1/\r.2.2.1=e.2.1:=by
 have hF:FW 8200 e.1:=he.1.2.1.1
 unfold j6
 exact xm (we (hf _ _ _ ⟨hF,he.2.2⟩) λ⟨b,c⟩ I=>zf (λ_=>zi ⟨An.er he 13 [] (zA _),rfl,rfl⟩) λ_=>z8 ⟨he,λ_=>I⟩ λ⟨d,e⟩ hr=>zi hr)
theorem Fs(j:vo->zx->T (vo×zx×Bool))(P:vo->vo->Prop)(hj:∀ h s,Hw h/\s.length<=1000000000->(j h s).wp λr=>(Hw r.1/\r.2.1.length<=1000000000)/\(r.2.2=true->P h r.1))(e:zl)(he:Ei e):(uP j e).wp λr=>An e r/\(r.1.1=0->P e.2.2.1 r.2.2.2.1)/\(r.1.1≠0->r.2.2.2.1=e.2.2.1):=by
 have hF:FW 8200 e.1:=he.1.2.1.1
 unfold uP
 refine z8 he.1.1 λs hs=>xm (we (hj _ _ ⟨he.2.1,Y hs he.1.len⟩) λ⟨d,g,h⟩ J=>zf (λ_=>zi ⟨An.er he 13 [] (zA _),nz (a:=13) (xn),λ_=>rfl⟩) λhh=>z8 ⟨hF,J.1.2⟩ λ⟨b,x⟩ I=>zf (λh=>zi ⟨An.er he x [] (zA _),nz (by simpa using h),λ_=>rfl⟩) λh => ?_)
 have I:Dx e.1 b:=I (by simpa using h)
 exact z8 ⟨hF,he.2.2⟩ λi hi=>zi ⟨⟨⟨I,J.1.1,hi⟩,zA _,rfl,nofun⟩,λ_=>J.2 (by simpa using hh),nofun⟩
instance (e:zl):Sp (kQ e) (Ei e) (λr=>An e r/\r.2.2.2.1=e.2.2.1):=⟨λhe=>by
 have hD:Dx e.1 e.2.1:=he.1
 unfold kQ
 exact z8 hD λd J=>zf (λ_=>zi ⟨An.er he 15 d J,rfl⟩) λ_=>z8 hD λl R=>z8 R λs _=>zi ⟨⟨he,zA _,rfl,nofun⟩,rfl⟩⟩
def Kn(k:Int)(e:zl)(r:Answer×zl):Prop :=
 (r.1.1=0->1<=k->k<=5->Pu e r.2)/\(r.1.1=0->k=9->Un e r.2)/\(r.1.1=0->k=10->Re e r.2)/\(¬ (r.1.1=0/\(1<=k/\k<=5\/k=9\/k=10))->r.2.2.2.1=e.2.2.1)/\(6<=k->k<=8->r.2.2.1=e.2.1)
def Ov(o:Op):Prop:=rg o.2.2.1/\rl o.2.2.1<=1700
theorem eqI{a b:Int}(h:(a==b)=true):a=b:=eq_of_beq h
theorem neI{a b:Int}(h:(a==b)=false):a≠b:=beq_eq_false_iff_ne.1 h
theorem k23{k:Int}(h:(bif (k==2)then(k==2)else(k==3))=true):1<=k/\k<=5:=by
 cases q:k==2 with
 | true=>have:=eqI q; omega
 | false=>rw[q]at h; have:=eqI h; omega
theorem Kn.ch{k:Int}{e:zl}{r:Answer×zl}(hk:1<=k/\k<=5)(h:An e r/\(r.1.1=0->Pu e r.2)/\(r.1.1≠0->r.2.2.2.1=e.2.2.1)):An e r/\Kn k e r :=
 ⟨h.1,λq _ _=>h.2.1 q,Z,Z,λq=>h.2.2 λz=>q ⟨z,.inl hk⟩,Z⟩
theorem Kn.tu{k:Int}{e:zl}{r:Answer×zl}(hk:6<=k/\k<=8)(h:An e r/\r.2.2.2.1=e.2.2.1/\r.2.2.1=e.2.1):An e r/\Kn k e r :=
 ⟨h.1,Z,Z,Z,λ_=>h.2.1,λ_ _=>h.2.2⟩
instance (o:Op) (e:zl):Sp (gF o e) (Ei e/\Ov o) (λr=>An e r/\Kn o.1 e r):=⟨λ⟨he,hv⟩=>by
 have hF:FW 8200 e.1:=he.1.2.1.1
 have hD:Dw e.2.1:=he.1.1
 unfold gF
 dsimp only
 refine zf (λk=>z8 ⟨hF,hD,hv⟩ λ⟨x,y,z⟩ hz=>z8 ⟨he,hz.1,hz.2⟩ λr hr=>zi (Kn.ch (by have:=eqI k; omega) hr)) λk1 => ?_
 refine zf (λk=>z8 ⟨hF,hD⟩ λ⟨x,y,z⟩ hz=>z8 ⟨he,hz.1,hz.2⟩ λr hr=>zi (Kn.ch (k23 k) hr)) λk2 => ?_
 refine zf (λk=>z8 ⟨hF,hD,hv⟩ λ⟨x,y,z⟩ hz=>z8 ⟨he,hz.1,hz.2⟩ λr hr=>zi (Kn.ch (by have:=eqI k; omega) hr)) λk4 => ?_
 refine zf (λk=>z8 ⟨hF,hD⟩ λ⟨x,y,z⟩ hz=>z8 ⟨he,hz.1,hz.2⟩ λr hr=>zi (Kn.ch (by have:=eqI k; omega) hr)) λk5 => ?_
 refine zf (λk=>xm (we (OG _ (λx l a h=>Sp.sp h) e he) λr hr=>zi (Kn.tu (by have:=eqI k; omega) hr))) λk6 => ?_
 refine zf (λk=>xm (we (OG _ (λx l a h=>Sp.sp h) e he) λr hr=>zi (Kn.tu (by have:=eqI k; omega) hr))) λk7 => ?_
 refine zf (λk=>z8 hF λ⟨x,y⟩ N=>z8 ⟨he,N⟩ λr hr=>zi (Kn.tu (by have:=eqI k; omega) hr)) λk8 => ?_
 refine zf (λk=>xm (we (Fs _ (λh h'=>h'.1.length+1=h.1.length/\h'.2.1.length=h.2.1.length+1) (λh s q=>Sp.sp q) e he) λr hr=>zi ?_)) λk9 => ?_
 ·have k:=eqI k
  exact⟨hr.1,Z,λq _=>hr.2.1 q,Z,λq=>hr.2.2 λz=>q ⟨z,.inr (.inl k)⟩,Z⟩
 refine zf (λk=>xm (we (Fs _ (λh h'=>h'.1.length=h.1.length+1/\h'.2.1.length+1=h.2.1.length) (λh s q=>Sp.sp q) e he) λr hr=>zi ?_)) λk10 => ?_
 ·have k:=eqI k
  exact⟨hr.1,Z,Z,λq _=>hr.2.1 q,λq=>hr.2.2 λz=>q ⟨z,.inr (.inr k)⟩,Z⟩
 have n1:=neI k1
 have n2:Ne (α:=Int) o.1 2:=λq=>by rw[q]at k2; cases k2
 have n3:Ne (α:=Int) o.1 3:=λq=>by rw[q]at k2; cases k2
 have n4:=neI k4
 have n5:=neI k5
 have n6:=neI k6
 have n7:=neI k7
 have n8:=neI k8
 have n9:=neI k9
 have n10:=neI k10
 have fin:∀ r:Answer×zl,An e r/\r.2.2.2.1=e.2.2.1->An e r/\Kn o.1 e r:=λr h=>⟨h.1,Z,Z,Z,λ_=>h.2,Z⟩
 exact zf (λk=>z8 he λr hr=>zi (fin _ hr)) λ_=>zi (fin _ ⟨An.er he 1 [] (zA _),rfl⟩)⟩
instance (o:Op) (e:zl):Sp (jV o e) (Ei e/\Ov o) (λr=>An e r/\Kn o.1 e r):=⟨λh=>by
 unfold jV cC
 refine wz rfl (zf (λ_=>zi ⟨An.er h.1 14 [] (zA _),?_⟩) λ_=>z8 h λ⟨b,c⟩ hr=>xm (wz rfl (zi (zi hr))))
 exact⟨nz (a:=14) (xn),nz (a:=14) (xn),nz (a:=14) (xn),λ_=>rfl,λ_ _=>rfl⟩⟩
open T PL
theorem rg_of{a:Lf.Rat}(h:wf zm a):rg a:=⟨λx N=>by have:=h.2.1 x N; exact⟨this.1,zJ this.2 (xn)⟩,λx N=>by have:=h.2.2.1 x N; exact⟨this.1,zJ this.2 (xn)⟩⟩
theorem zkN(a:Lf.Rat):rl a<=bk zm a:=by
 have e:bk zm a=1+((Xx (λ_=>1) a.2.1+1)+((Xx (λ_=>1) a.2.2.1+1)+1)):=rfl
 rw[e,Gm,Gm]
 unfold rl
 omega
theorem Fv{α:Type}(f:α->Nat){l:List α}{x:α}(h:x∈l):f x<=Xx f l:=by
 induction l with
 | nil=>cases h
 | cons a r ih =>
  show _<=f a+Xx f r
  rcases List.mem_cons.1 h with rfl | h
  ·omega
  ·have:=ih h; omega
theorem Gl{α:Type}(f:α->Nat)(hf:∀ x,1<=f x):∀ l:List α,l.length<=Xx f l
 | []=>zF _
 | a::r=>by have:=Gl f hf r; have:=hf a; show r.length+1<=f a+Xx f r; omega
theorem Mp(e:Expr):1<=bkE e:=by cases e; unfold bkE; omega
theorem Du:∀ (e:Expr),wfE e->bkE e<=KK->EW KK e
 | .mk k n s l,hw,I=>by
  unfold wfE at hw
  unfold bkE at I
  rw[Mq]at I
  have h1:=Gl (bk .expr) (λx=>Mp x) l
  refine .mk (rg_of ⟨trivial,hw.2.1.2.1,hw.2.1.2.2.1,trivial⟩) (by unfold rl; omega) (Z) (Z) λx N => ?_
  have M:=Fv (bk .expr) N
  have h3:bk .expr x=bkE x:=rfl
  exact Du x ((Px l).1 hw.2.2.2.1 x N) (Z)
termination_by e=>zN e
decreasing_by have:=zL N; simp; omega
theorem Tt:∀ (τ:Ty) (x:den τ),1<=bk τ x
 | .int _,_=>zF _
 | .bool,_=>zF _
 | .str,_=>Nat.le_add_left ..
 | .sl _,_=>Nat.le_add_left ..
 | .nil,_=>zF _
 | .cons a b,x=>Y (Tt a x.1) (Nat.le_add_right ..)
 | .expr,x=>Mp x
theorem bl{τ:Ty}(l:List (den τ)):l.length+1<=bk (.sl τ) l:=Nat.succ_le_succ (Gl _ (Tt τ) l)
theorem bm{τ:Ty}{l:List (den τ)}{x:den τ}(h:x∈l):bk τ x+1<=bk (.sl τ) l:=Nat.succ_le_succ (Fv _ h)
theorem zau(f:Form)(hw:wf qy f)(I:bk qy f<=1048576):FW KK f:=by
 have kk:KK=2000000:=rfl
 obtain⟨w1,w2,w3,w4,w5,w6,-⟩:=hw
 have e:bk qy f=bk (.sl qs) f.1+(bk (.sl qf) f.2.1+(bk (.sl xp) f.2.2.1+(bk (.sl qv) f.2.2.2.1+(bk (.sl xl) f.2.2.2.2.1+(bk (.sl xj) f.2.2.2.2.2.1+1))))):=rfl
 have l1:=bl (τ:=qs) f.1
 have l2:=bl (τ:=qf) f.2.1
 have l3:=bl (τ:=xp) f.2.2.1
 have l4:=bl (τ:=qv) f.2.2.2.1
 have l5:=bl (τ:=xl) f.2.2.2.2.1
 have l6:=bl (τ:=xj) f.2.2.2.2.2.1
 refine⟨⟨Z,λx N => ?_⟩,⟨Z,λx N => ?_⟩,⟨Z,λx N => ?_⟩,⟨Z,λx N => ?_⟩,⟨Z,λx N => ?_⟩,Z,λx N => ?_⟩
 ·have m:=bm (τ:=qs) N
  have q:bk qs x=(x.1.length+1)+(1+1):=rfl
  omega
 ·have m:=bm (τ:=qf) N
  have q:bk qf x=(x.1.length+1)+(bk zm x.2.1+1):=rfl
  have:=zkN x.2.1
  exact⟨Z,rg_of (w2 x N).2.1,Z⟩
 ·have m:=bm (τ:=xp) N
  have q:bk xp x=(x.1.length+1)+((x.2.1.length+1)+1):=rfl
  exact⟨Z,Z⟩
 ·have m:=bm (τ:=qv) N
  have q:bk qv x=(x.1.length+1)+(1+(1+(1+1))):=rfl
  omega
 ·have m:=bm (τ:=xl) N
  have q:bk xl x=(x.1.length+1)+(1+((x.2.2.1.length+1)+(bkE x.2.2.2.1+(bkE x.2.2.2.2.1+1)))):=rfl
  have w:=w5 x N
  exact⟨Z,Z,Du _ w.2.2.2.1 (Z),Du _ w.2.2.2.2.1 (Z)⟩
 ·have m:=bm (τ:=xj) N
  have q:bk xj x=(x.1.length+1)+(1+(1+(bkE x.2.2.2.1+(bkE x.2.2.2.2.1+1)))):=rfl
  have w:=w6 x N
  exact⟨Z,Du _ w.2.2.2.1 (Z),Du _ w.2.2.2.2.1 (Z)⟩
open T PL
instance (e:Expr) (n:Int):Sp (bW e n) (EW KK e /\ -1000000000<=n/\n<=1000000000) (λr=>r<=n/\min n 0-40000000<=r):=⟨λ⟨h,hn⟩=>by
 unfold bW
 refine so (x:=(e,n)) (σ:=Expr×Int) (λ(e,n)=>EW KK e /\ -1000000000<=n/\n<=1000000000) (λ(e,_)=>zN e) (λ(e,n) (r:Int)=>r<=n/\min n 0-40000000<=r) ?_ ?_ ⟨h,hn⟩
 ·intro g g' hg x
  unfold dt nV eH
  exact mono
 ·rintro⟨e,n⟩ ⟨he,h0,h1⟩ g hg
  cases he with
  | @mk kd q s L g1 g2 g3 g4 g5 =>
  have kk:KK=2000000:=rfl
  have r1:=(SJ (a:=q)).1
  have r2:=(SJ (a:=q)).2
  unfold dt nV
  simp only[Expr.kids,Expr.num,Expr.name]
  simp(disch:=omega) only[qp]
  refine xm (we (vU (Q:=λr=>r<=n/\min n 0-40000000<=r) (λz:Int×Int=>0<=z.2/\z.2<=L.length/\z.1<=n/\min n 0-40000000<=z.1) (λz=>((L.length:Int)-z.2).toNat) ⟨X _,by show(0:Int)<=_; omega,by show n-3-_-_-_<=n; omega,by show _<=n-3-_-_-_; omega⟩ ?_) λr hr=>zi hr)
  rintro⟨b,i⟩ ⟨i0,i1,b0,b1⟩
  dsimp only at i0 i1 b0 b1
  unfold eH
  refine zf (λJ => ?_) λJ=>zi ⟨b0,b1⟩
  have J:=V.1 J
  have d1:i<(L.length:Int):=uB J.1
  have d2:0<=b:=uB J.2
  have hw:qi (i+1)=i+1:=qp (Z) (Z)
  have hm:=xw (l:=L) (d:=zb .expr) i0 d1
  refine qt ⟨i0,d1⟩ (xm (we (hg (nth L i (zb .expr),b) ⟨g5 _ hm,Z,Z⟩ (by have:=zL hm; simp; omega)) λr hr=>zi ?_))
  have hr:r<=b/\min b 0-40000000<=r:=hr
  rw[hw]
  exact⟨⟨by show 0<=i+1; omega,by show i+1<=_; omega,by show r<=n; omega,by show _<=r; omega⟩,by simp only; omega⟩⟩
abbrev Tf:Int := -1000000000
theorem IX{α:Type}(l:List α)(d:α)(R:l.length<=KK)(c0:Int)(hc:Tf<=c0/\c0<=600){hl:Int×Int->T ((Int×Int)⊕Int)}
  (step:∀ c i:Int,0<=i->i<l.length->0<=c->c<=600->nth l i d∈l->(hl (c,i)).wp λz=>∃ c',z=.inl (c',qi (i+1))/\c'<=c/\Tf<=c')
  (stop:∀ c i:Int,((decide (i<(l.length:Int)))&&(decide ((0:Int)<=c)))=false->(hl (c,i)).wp λz=>z=.inr c):(T.loop hl (c0,0)).wp λr=>r<=c0/\Tf<=r:=by
 have kk:KK=2000000:=rfl
 refine vU (λz:Int×Int=>0<=z.2/\z.2<=l.length/\z.1<=c0/\Tf<=z.1) (λz=>((l.length:Int)-z.2).toNat) ⟨X _,by show(0:Int)<=_; omega,X _,hc.1⟩ ?_
 rintro⟨c,i⟩ ⟨i0,i1,b0,b1⟩
 dsimp only at i0 i1 b0 b1
 cases J:(decide (i<(l.length:Int)))&&(decide ((0:Int)<=c))with
 | true =>
  have J:=V.1 J
  have d1:i<(l.length:Int):=uB J.1
  have d2:0<=c:=uB J.2
  have hw:qi (i+1)=i+1:=qp (Z) (Z)
  refine we (step c i i0 d1 d2 (Z) (xw i0 d1)) ?_
  rintro _ ⟨c',rfl,q1,q2⟩
  rw[hw]
  exact⟨⟨by show 0<=i+1; omega,by show i+1<=_; omega,by show c'<=_; omega,q2⟩,by simp only; omega⟩
 | false =>
  refine we (stop c i J) ?_
  rintro _ rfl
  exact⟨b0,b1⟩
instance (f:Form):Sp (nf f) (FW KK f) (λr=>r=false->FW 8200 f):=⟨λh=>by
 have kk:KK=2000000:=rfl
 have lo:Tf = -1000000000:=rfl
 obtain⟨⟨n1,f1⟩,⟨n2,f2⟩,⟨n3,f3⟩,⟨n4,f4⟩,⟨n5,f5⟩,n6,f6⟩:=h
 unfold nf
 simp(disch:=omega) only[qp]
 generalize hS:(f.1.length:Int)+f.2.1.length+f.2.2.1.length+f.2.2.2.1.length+f.2.2.2.2.1.length+f.2.2.2.2.2.1.length=S
 refine xm (we (IX f.2.1 (zb qf) n2 _ ⟨Z,Z⟩ (λc i i0 i1 c0 c1 hm => ?_) λc i J => ?_) λc1 h1 => ?_)
 ·have m:=f2 _ hm
  have r1:=(SJ (a:=(nth f.2.1 i (zb qf)).2.1)).1
  have r2:=(SJ (a:=(nth f.2.1 i (zb qf)).2.1)).2
  have m1:=m.1
  have m2:=m.2.2
  unfold rA
  dsimp only
  simp(disch:=omega) only[qp]
  exact um (by simp[i1,c0]) (qt ⟨i0,i1⟩ (qt ⟨i0,i1⟩ (qt ⟨i0,i1⟩ (zi ⟨_,rfl,Z,Z⟩))))
 ·exact wz J (zi rfl)
 refine xm (we (IX f.1 (zb qs) n1 c1 ⟨h1.2,Z⟩ (λc i i0 i1 c0 c1 hm => ?_) λc i J => ?_) λc2 M => ?_)
 ·have m:=f1 _ hm
  unfold rB
  dsimp only
  simp(disch:=omega) only[qp]
  exact um (by simp[i1,c0]) (qt ⟨i0,i1⟩ (zi ⟨_,rfl,Z,Z⟩))
 ·exact wz J (zi rfl)
 refine xm (we (IX f.2.2.1 (zb xp) n3 c2 ⟨M.2,Z⟩ (λc i i0 i1 c0 c1 hm => ?_) λc i J => ?_) λc3 h3 => ?_)
 ·have m:=f3 _ hm
  have m1:=m.1
  have m2:=m.2
  unfold rC
  dsimp only
  simp(disch:=omega) only[qp]
  exact um (by simp[i1,c0]) (qt ⟨i0,i1⟩ (qt ⟨i0,i1⟩ (zi ⟨_,rfl,Z,Z⟩)))
 ·exact wz J (zi rfl)
 refine xm (we (IX f.2.2.2.1 (zb qv) n4 c3 ⟨h3.2,Z⟩ (λc i i0 i1 c0 c1 hm => ?_) λc i J => ?_) λc4 h4 => ?_)
 ·have m:=f4 _ hm
  unfold rD
  dsimp only
  simp(disch:=omega) only[qp]
  exact um (by simp[i1,c0]) (qt ⟨i0,i1⟩ (zi ⟨_,rfl,Z,Z⟩))
 ·exact wz J (zi rfl)
 refine xm (we (IX f.2.2.2.2.1 (zb xl) n5 c4 ⟨h4.2,Z⟩ (λc i i0 i1 c0 c1 hm => ?_) λc i J => ?_) λc5 h5 => ?_)
 ·obtain⟨m1,m2,m3,m4⟩:=f5 _ hm
  unfold rE
  dsimp only
  simp(disch:=omega) only[qp]
  refine um (by simp[i1,c0]) (qt ⟨i0,i1⟩ (qt ⟨i0,i1⟩ (qt ⟨i0,i1⟩ (qt ⟨i0,i1⟩ (z8 ⟨m3,Z,Z⟩ λx N=>z8 ⟨m4,Z,Z⟩ λy hy=>zi ⟨_,rfl,Z,Z⟩)))))
 ·exact wz J (zi rfl)
 refine xm (we (IX f.2.2.2.2.2.1 (zb xj) n6 c5 ⟨h5.2,Z⟩ (λc i i0 i1 c0 c1 hm => ?_) λc i J => ?_) λc6 h6=>zi λe => ?_)
 ·obtain⟨m1,m3,m4⟩:=f6 _ hm
  unfold rF
  dsimp only
  simp(disch:=omega) only[qp]
  refine um (by simp[i1,c0]) (qt ⟨i0,i1⟩ (qt ⟨i0,i1⟩ (qt ⟨i0,i1⟩ (z8 ⟨m3,Z,Z⟩ λx N=>z8 ⟨m4,Z,Z⟩ λy hy=>zi ⟨_,rfl,Z,Z⟩))))
 ·exact wz J (zi rfl)
 have e:=hJ e
 exact⟨⟨Z,f1⟩,⟨Z,f2⟩,⟨Z,f3⟩,⟨Z,f4⟩,⟨Z,f5⟩,Z,f6⟩⟩
def okL(l:List Op)(n:Int):Prop:=∀ i:Int,0<=i->i<l.length->i<n->(nth l i (zb bK)).2.2.1.2.1.length<=3/\(nth l i (zb bK)).2.2.1.2.2.1.length<=3
instance (l:List Op):Sp (rG l) (l.length<=KK) (λr=>r=false->okL l 25):=⟨λh=>by
 have kk:KK=2000000:=rfl
 unfold rG Ww
 refine xm (we (P:=λz:Unit⊕Bool=>z.elim (λ_=>okL l 25) λb=>b=true) ?_ λz hz => ?_)
 ·refine vU (σ:=Int) (λi=>0<=i/\i<=l.length/\okL l i) (λi=>((l.length:Int)-i).toNat) ⟨Z,Z,λi _ _ _=>Z⟩ λi ⟨i0,i1,hi⟩ => ?_
  unfold tx
  dsimp only
  refine zf (λJ => ?_) λJ=>zi λj j0 j1 j2=>hi j j0 j1 ?_
  ·have J:=V.1 J
   have d1:i<(l.length:Int):=uB J.1
   have hw:qi (i+1)=i+1:=qp (Z) (Z)
   refine zj ⟨⟨i0,d1⟩,λ_=>⟨⟨i0,d1⟩,λ_=>⟨i0,d1⟩⟩⟩ (zf (λ_=>zi rfl) λe=>zi ?_)
   rw[hw]
   simp only[Bool.or_eq_false_iff]at e
   have e1:=hJ e.2.1
   have e2:=hJ e.2.2
   refine⟨⟨Z,Z,λj j0 j1 j2 => ?_⟩,Z⟩
   by_cases q:j=i
   ·subst q; exact⟨Z,Z⟩
   ·exact hi j j0 j1 (Z)
  ·simp only[Bool.and_eq_false_iff]at J
   rcases J with J | J
   ·have:=hJ J; omega
   ·have:=hJ J; omega
 ·rcases z with z | z
  ·exact zi λ_=>hz
  ·have hz:z=true:=hz
   subst hz
   exact zi nofun⟩
open T PL
instance (f:Form):Sp (dL f) (FW 8200 f) (λr=>r.elim (λz=>z.2.1=0/\Ei z.2.2) λz=>z.2≠0):=⟨λh=>by
 unfold dL
 refine z8 h λ⟨s,k⟩ _=>zf (λe=>zi (by simpa using e)) λ_=>z8 h λa ha=>z8 ha λ⟨l,b,i,d,c,e,g,j⟩ hr=>zf (λq => ?_) λq => ?_
 ·have I:b.length<=1:=hr.2
  exact zj (Z) (zj ⟨xn,by show(0:Int)<((b.length+1:Nat):Int); omega⟩ (zj ⟨rfl,by rw[Jc]; show 0+0<_; omega⟩ (zi (by simpa using q))))
 ·have hD:Dx a (d,c,l.1,e,g,j,()):=hr.1 (by simpa using q)
  rw[cm,cm,cm,cm,cm]
  exact za (za (za (za (za (z8 ⟨ha.1,xn,xn⟩ λm hm=>zi ⟨rfl,hD,⟨zA _,nofun,nofun⟩,hm⟩)))))⟩
open T PL
theorem zdS{l:List Op}{n:Int}(h:okL l n)(hr:∀ o∈l,rg o.2.2.1){i:Int}(i0:0<=i)(i1:i<l.length)(i2:i<n):Ov (nth l i (zb bK)):=by
 have:=h i i0 i1 i2
 exact⟨hr _ (xw i0 i1),by unfold rl; omega⟩
theorem z19(hk:jD.run=some true):(T.bind jD λh=>T.ret h).wp λr=>r=true:=xm (cI hk (zi rfl))
theorem z1d(x:Y6 [qy,.sl bK])(hw:wfL [qy,.sl bK] x)(I:bkL [qy,.sl bK] x<=1048576):FW KK x.1/\List.length x.2.1<=KK/\∀ o∈x.2.1,rg o.2.2.1:=by
 have kk:KK=2000000:=rfl
 have e:bkL [qy,.sl bK] x=bk qy x.1+(bk (.sl bK) x.2.1+0):=rfl
 have:=bl (τ:=bK) x.2.1
 exact⟨zau _ hw.1 (Z),Z,λo ho=>rg_of (hw.2.1 o ho).2.2.1⟩
instance (i:Int) (n:Nat):Decidable (xe i n):=inferInstanceAs (Decidable (_/\_))
instance (a b c d:Nat):Decidable (uO a b c d):=inferInstanceAs (Decidable (_/\_))
instance (a b c d:Nat):Decidable (zp a b c d):=inferInstanceAs (Decidable (_/\_/\_))
instance (a b:Int) (c:Nat):Decidable (jA a b c):=inferInstanceAs (Decidable (_/\_/\_))
instance (a b c:Int) (d:Nat):Decidable (zkU a b c d):=inferInstanceAs (Decidable (_/\_/\_/\_))
instance (a b:Int) (c:Nat):Decidable (eC a b c):=inferInstanceAs (Decidable (_/\_/\_/\_))
instance (a b c d e f g:Nat):Decidable (vV a b c d e f g):=inferInstanceAs (Decidable (_/\_/\_/\_))
instance (a b c d e:Nat):Decidable (QN a b c d e):=inferInstanceAs (Decidable (_/\_))
instance (n:Int):Decidable (wfI n):=inferInstanceAs (Decidable (_=true))
instance (y:Bool) (n:Int) (l:List Int):Decidable (z2a y n l):=inferInstanceAs (Decidable (_/\_/\_))
noncomputable def nx {σ ρ:Type} (r:σ->T (σ⊕ρ)):σ⊕ρ->Option ρ
 | .inl s=>(T.loop r s).run
 | .inr y=>some y
theorem z9P{σ ρ:Type}{r:σ->T (σ⊕ρ)}{s:σ}{z:σ⊕ρ}{x:ρ}(h:(r s).run=some z)(k:nx r z=some x):(T.loop r s).run=some x:=by
 cases z with
 | inl s'=>rw[XU h]; exact k
 | inr y=>rw[pn h]; exact k
theorem nxL{σ ρ:Type}{r:σ->T (σ⊕ρ)}{s:σ}{x:ρ}(k:(T.loop r s).run=some x):nx r (.inl s)=some x:=k
theorem nxR{σ ρ:Type}{r:σ->T (σ⊕ρ)}{y:ρ}:nx r (.inr y)=some y:=rfl
theorem z99{α β:Type}{t:T α}{f:α->T β}{a:α}{x:β}(h:t.run=some a)(k:(f a).run=some x):(t.bind f).run=some x:=(zw h f).trans k
theorem zgA{α:Type}{b:Bool}{t e:T α}{x:α}(h:b=true)(k:t.run=some x):(T.ite b t e).run=some x:=by subst h; exact k
theorem zgz{α:Type}{b:Bool}{t e:T α}{x:α}(h:b=false)(k:e.run=some x):(T.ite b t e).run=some x:=by subst h; exact k
theorem zgQ{α:Type}{p:Prop}{t:T α}{x:α}(h:p)(k:t.run=some x):(T.W p t).run=some x:=(xi h t).trans k
theorem elL{α β γ:Type}{f:α->T γ}{g:β->T γ}{a:α}{x:γ}(h:(f a).run=some x):(zK f g (.inl a)).run=some x:=h
theorem elR{α β γ:Type}{f:α->T γ}{g:β->T γ}{a:β}{x:γ}(h:(g a).run=some x):(zK f g (.inr a)).run=some x:=h
theorem zaS{a:zx}(h:(decide (a.length<4294967281)&&a.all λb=>decide (b.toNat<128))=true):(strings_makeASCIISet a).run=some (lH a,true):=by
 simp only[zE,decide_eq_true_eq,List.all_eq_true]at h
 unfold strings_makeASCIISet
 rw[xi ⟨h.1,λj b I=>h.2 b (zM I)⟩,xz]
theorem evd{α:Type}{t:T α}{x y:α}(h:t.run=some x)(k:x=y):t.run=some y:=by rw[h,k]
theorem zaU{e:Type}{a:List e}{n:Nat}(h:vV 0 0 0 0 0 a.length n):(T.W (a=[]->∀ r,T.leads (.W (vV 0 0 0 0 0 a.length n)<|.W (0+a.length=0+a.length)<|.ret (zG 0 (zI (0+(0+a.length)) a)):T _) r->T.leads (.ret ([]:List e):T _) r)<|.W (vV 0 0 0 0 0 a.length n)<|.W (0+a.length=0+a.length)<|.ret (zG 0 (zI (0+(0+a.length)) a)):T (List e)).run=some a:=by
 have e0:zG 0 (zI (0+(0+a.length)) a)=a:=qz
 rw[e0,xi (λe r h=>by rw[e]at h; exact h.2.2),xi h,xi rfl,xz]
theorem zaV{e:Type}{a:List e}{n:Nat}(h:vV 0 0 0 0 0 a.length n):(T.W (a=[]->∀ r,T.leads (.W (vV 0 0 0 0 0 a.length n)<|.W (zp (0+a.length) 0 (0+a.length) a.length)<|.W (0+a.length=a.length)<|.ret a:T _) r->T.leads (.W (zp 0 0 0 0)<|.W ((0:Nat)=0)<|.ret ([]:List e):T _) r)<|.W (vV 0 0 0 0 0 a.length n)<|oM (0+a.length) a.length<|.ret a:T (List e)).run=some a:=by
 have e0:0+a.length=a.length:=Nat.zero_add _
 rw[xi (λe r h=>by rw[e]at h; exact⟨⟨rfl,rfl,rfl⟩,rfl,h.2.2.2⟩),xi h]
 show(T.W _ (T.W _ _)).run=_
 rw[xi ⟨e0,rfl,e0⟩,xi e0,xz]
theorem zee(hx:Nat){σ ρ:Type}{b:(σ->T ρ)->σ->T ρ}{x:σ}{y:ρ}(h:∀ k,(Wq b (k+hx) x).run=some y):(T.fix b x).run=some y:=by
 rw[yA,lY]
 exact⟨hx,λm hm=>T.yA.1 (by have:=h (m-hx); rwa [Nat.sub_add_cancel hm]at this)⟩
theorem zlS{σ ρ:Type}{b:(σ->T ρ)->σ->T ρ}{m:Nat}{x:σ}{y:ρ}(h:(b (Wq b m) x).run=some y):(Wq b (m+1) x).run=some y:=h
set_option maxRecDepth 100000 in
set_option maxHeartbeats 20000000 in
theorem z6d:jD.run=some true:=by
 unfold jD
 apply evd
 ·repeat first
    | with_reducible exact xz _
    | with_reducible exact nxR
    | with_reducible apply nxL
    | with_reducible apply z99
    | with_reducible apply z9P
    | (with_reducible apply zee 6; intro k)
    | with_reducible apply zlS
    | with_reducible apply elL
    | with_reducible apply elR
    | (with_reducible apply zgQ; · first | decide +kernel | (intro e r h; rw[e]at h; simpa[T.leads]using h))
    | with_reducible apply zgA (by decide +kernel)
    | with_reducible apply zgz (by decide +kernel)
    | with_reducible exact zaS (by decide +kernel)
    | dsimp only
    | exact zaU (by decide +kernel)
    | exact zaV (by decide +kernel)
    | apply z99
    | (apply zgQ; · first | decide +kernel | (intro e r h; rw[e]at h; simpa[T.leads]using h))
    | apply zgA (by decide +kernel)
    | apply zgz (by decide +kernel)
    | apply z9P
    | (apply zee 6; intro k)
    | exact xz _
 ·kernel_rfl
open T PL
theorem z0O(e:zl)(h:Hw e.2.2.1):(vD e).wp λr=>r=((),e,e.2.2.1.1,e.2.2.1.2.1):=by
 have h1:=h.1
 have z:∀ n:Nat,zp (0+n) 0 (0+n) n:=λn=>⟨Nat.zero_add n,rfl,Nat.zero_add n⟩
 unfold vD
 refine wz rfl (zf (λa=>zf (λb => ?_) λb => ?_) λa=>zj (Z) (zf (λb => ?_) λb => ?_))
 ·exact zj cu0 (zj cu0 (zj rfl (zj rfl (zi (by rw[zH.1 a,zH.1 b])))))
 ·exact zj (Z) (zj cu0 (zj (z _) (zj rfl (zj (Nat.zero_add _) (zi (by rw[zH.1 a]))))))
 ·exact zj (z _) (zj cu0 (zj (Nat.zero_add _) (zj rfl (zi (by rw[zH.1 b])))))
 ·exact zj (Z) (zj (z _) (zj (z _) (zj (Nat.zero_add _) (zj (Nat.zero_add _) (zi rfl)))))
theorem Pp(a:List zx)(h:a.length<=32):(bN a a).wp λr=>r=true:=by
 unfold bN iS
 refine wz (qz) (xm (we (P:=λz=>z=.inl ()) ?_ ?_))
 ·refine vU (σ:=Int) (λi=>0<=i/\i<=a.length) (λi=>((a.length:Int)-i).toNat) ⟨Z,Z⟩ λi hi => ?_
  unfold dy
  refine zf (λJ => ?_) λJ=>zi rfl
  have J:=uB J
  have hw:qi (i+1)=i+1:=qp (Z) (Z)
  refine qt ⟨hi.1,J⟩ (qt ⟨hi.1,J⟩ (wz (by simp[wL]) (zi ?_)))
  rw[hw]; exact⟨⟨Z,Z⟩,Z⟩
 ·rintro _ rfl
  exact zi rfl
theorem zkQ(h:vo)(k:Hw h):(ml h h).wp λr=>r=true:=by
 have k1:=k.1
 unfold ml
 refine xm (we (Pp h.1 (Z)) ?_)
 rintro _ rfl
 exact um rfl (xm (we (Pp h.2.1 (Z)) λr hr=>zi hr))
theorem z2I(hk:jD.run=some true)(f:Form)(l:List Op)(hf:FW KK f)(R:l.length<=KK)(hr:∀ o∈l,rg o.2.2.1):(jZ f l).run=some true:=by
 suffices h:(jZ f l).wp (λr=>r=true) by
  obtain⟨a,h1,M⟩:=T.oe.1 h
  rw[h1,M]
 have K:=z19 hk
 unfold jZ
 refine xm (we (P:=λr=>r=false->FW 8200 f/\okL l 25) (z8 hf λc hc=>zf (λ_=>zi nofun) λe=>z8 R λd J=>zi λq=>⟨hc e,J q⟩) λe he=>zf (λ_=>zi rfl) λe2 => ?_)
 obtain⟨hF,hO⟩:=he e2
 refine z8 hF λz hz => ?_
 rcases z with⟨m,n,g⟩ | ⟨p,k⟩
 ·obtain⟨hn,hE⟩:=hz
  have hn:n=0:=hn
  subst hn
  refine wz rfl (xm (we (P:=λz=>∃ d,z=.inl d) ?_ ?_))
  ·unfold yV
   refine vU (λz:Int×zl=>0<=z.1/\z.1<=l.length/\Ei z.2) (λz=>((l.length:Int)-z.1).toNat) ⟨X _,by show(0:Int)<=_; omega,hE⟩ ?_
   rintro⟨i,d⟩ ⟨i0,i1,J⟩
   dsimp only at i0 i1 J
   unfold jN
   dsimp only
   refine zf (λhc => ?_) λ_=>zi ⟨d,rfl⟩
   have hc:=V.1 hc
   have d1:i<(l.length:Int):=uB hc.1
   have d2:i<25:=uB hc.2
   have hw:qi (i+1)=i+1:=qp (Z) (Z)
   refine xm (we (z0O d J.2.1) ?_)
   rintro _ rfl
   refine qt ⟨i0,d1⟩ (z8 ⟨J,zdS hO hr i0 d1 d2⟩ λ⟨a,c⟩ ha => ?_)
   obtain⟨⟨h1,M,h3,h4⟩,q1,q2,q3,q4,q5⟩:=ha
   have h1:Ei c:=h1
   have q1:a.1=0->1<=(nth l i (zb bK)).1->(nth l i (zb bK)).1<=5->Pu d c:=q1
   have q2:a.1=0->(nth l i (zb bK)).1=9->Un d c:=q2
   have q3:a.1=0->(nth l i (zb bK)).1=10->Re d c:=q3
   have q4:¬ (a.1=0/\(1<=(nth l i (zb bK)).1/\(nth l i (zb bK)).1<=5\/(nth l i (zb bK)).1=9\/(nth l i (zb bK)).1=10))->c.2.2.1=d.2.2.1:=q4
   generalize hk:(nth l i (zb bK)).1=k at q1 q2 q3 q4
   have b1:=J.2.1.1
   have fin:((Sum.inl (qi (i+1),c):(Int×zl)⊕(zl⊕(Bool×zl))))=.inl (i+1,c):=by rw[hw]
   have ok:(T.ret (Sum.inl (qi (i+1),c)):T ((Int×zl)⊕(zl⊕(Bool×zl)))).wp λz=>match z with | .inl s'=>(0<=s'.1/\s'.1<=l.length/\Ei s'.2)/\((l.length:Int)-s'.1).toNat<((l.length:Int)-i).toNat | .inr y=>∃ d,y=.inl d:=by
    rw[fin]
    exact zi ⟨⟨by show 0<=i+1; omega,by show i+1<=_; omega,h1⟩,by simp only; omega⟩
   refine xm (we (z0O c h1.2.1) ?_)
   rintro _ rfl
   refine qt ⟨i0,d1⟩ (zf (λc1=>wz ?_ ok) λc1=>zf (λc2=>wz ?_ ok) λc2=>zf (λc3=>wz ?_ ok) λc3=>za (za (za (za ?_))))
   ·simp only[zE,beq_iff_eq,decide_eq_true_eq]at c1
    obtain⟨p1,p2⟩:=q1 c1.1 c1.2.1 c1.2.2
    have e1:ZP 32 (qi ((d.2.2.1.1.length:Int)+1))=((min 32 (d.2.2.1.1.length+1):Nat):Int):=by
     rw[qp (Z) (Z)]
     unfold ZP
     split<;>omega
    rw[e1,p1,p2]
    simp
   ·simp only[zE,beq_iff_eq]at c2
    obtain⟨p1,p2⟩:=q2 c2.1 c2.2
    rw[qp (x:=(d.2.2.1.1.length:Int)-1) (Z) (Z),qp (x:=(d.2.2.1.2.1.length:Int)+1) (Z) (Z),p2,<- p1]
    simp
   ·simp only[zE,beq_iff_eq]at c3
    obtain⟨p1,p2⟩:=q3 c3.1 c3.2
    rw[qp (x:=(d.2.2.1.1.length:Int)+1) (Z) (Z),qp (x:=(d.2.2.1.2.1.length:Int)-1) (Z) (Z),p1,<- p2]
    simp
   ·have e:c.2.2.1=d.2.2.1:=q4 (by
     rintro⟨z,y | y | y⟩
     ·simp[z,y]at c1
     ·simp[z,y]at c2
     ·simp[z,y]at c3)
    rw[cm,cm,cm,cm,e]
    refine xm (we (zkQ d.2.2.1 J.2.1) ?_)
    rintro _ rfl
    exact wz rfl ok
  ·rintro _ ⟨d,rfl⟩
   exact K
 ·exact um (by simpa using hz) (um rfl K)
theorem ZN(x:Y6 [qy,.sl bK])(hw:wfL [qy,.sl bK] x)(I:bkL [qy,.sl bK] x<=1048576):(jZ (SR [qy,.sl bK] x).1 (SR [qy,.sl bK] x).2).run=some true:=z2I z6d x.1 x.2.1 (z1d x hw I).1 (z1d x hw I).2.1 (z1d x hw I).2.2
end Go.AM.Lf
