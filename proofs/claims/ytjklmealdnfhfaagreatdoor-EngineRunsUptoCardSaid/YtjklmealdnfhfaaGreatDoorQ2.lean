/-
  Plain laws of the lifted program, part 2.
-/
import Derived.Test.YtjklmealdnfhfaaGreatDoorLf1
import Derived.Test.YtjklmealdnfhfaaGreatDoorAmA
import Derived.Test.YtjklmealdnfhfaaGreatDoorAmD
import Derived.KernelRfl
import Derived.Test.YtjklmealdnfhfaaGreatDoorQ0
import Derived.Test.YtjklmealdnfhfaaGreatDoorQ1
set_option linter.unusedVariables false
open Nat renaming zero_le -> B, le_trans -> E, le_refl -> V, le_of_eq -> zK
open Int renaming le_refl -> X, lt_of_le_of_lt -> zG
open List renaming range -> zE, sizeOf_lt_of_mem -> zH, mem_of_getElem? -> zI, drop -> zL, take -> zM
open Bool renaming and_eq_true_iff -> zF
open SizeOf renaming sizeOf -> zJ
open Go.AM.T (UF Wq XU Xr eY j7 kY lX pg qt sk uo uz vA vG vL vS vT vk wC wa wj xi xl yA z8 za ze zg zi zj zu)
namespace Go.AM.Lf
open T PL
def zkY{α:Type}(d0:α)(e:α->T zx)(d:List α)(f:Int):(zx×Int)->T ((zx×Int)⊕(zx))
 | (c,a) =>
  .ite (decide (a<f))
   (oI a d <|
    T.bind (e (nth d a d0)) λb =>
    oK ([32]:zx) b <|
    oK c (cat ([32]:zx) b) <|
    .ret (.inl ((cat c (cat ([32]:zx) b)),(qo (a+(1:Int))))))
   (.ret (.inr c))
theorem yD(a b:zx):(cat a b).length=a.length+b.length:=List.length_append
theorem z8Q{α:Type}(d0:α)(K:Nat)(e:α->T zx)(l:List α)(c:zx)(he:∀ x∈l,(e x).wp λr=>r.length<=K)(R:c.length+l.length*(K+1)<=1000000000000000)(hn:l.length<=1000000000) :
  (T.bind (T.loop (zkY d0 e l (l.length:Int)) (c,(0:Int))) λa=>oK a ([10]:zx) (.ret (cat a ([10]:zx)))).wp λr=>r.length<=c.length+l.length*(K+1)+1:=by
 refine xl (wj (P:=λz=>z.length<=c.length+l.length*(K+1)) ?_ λz hz=>vk (by show z.length+1<=_; omega) (zi (by rw[yD]; show z.length+1<=_; omega)))
 refine vS (σ:=zx×Int) (λz=>∃ k:Nat,z.2=(k:Int)/\k<=l.length/\z.1.length<=c.length+k*(K+1)) (λz=>((l.length:Int)-z.2).toNat) ⟨0,rfl,B _,by show c.length<=_; omega⟩ ?_
 rintro⟨s,_⟩ ⟨k,rfl,hk,hs⟩
 unfold zkY
 refine zg (λJ => ?_) λJ=>zi ?_
 ·have J:=uA J
  have hw:qo ((k:Int)+1)=k+1:=qv (O) (O)
  have h1:(k+1)*(K+1)=k*(K+1)+(K+1):=Nat.succ_mul ..
  have M:(k+1)*(K+1)<=l.length*(K+1):=Nat.mul_le_mul_right _ (O)
  have hs:s.length<=c.length+k*(K+1):=hs
  refine qt ⟨O,J⟩ (xl (wj (he _ (xx (O) J)) λb I=>vk (by show 1+b.length<=_; omega) (vk (by rw[yD]; show s.length+(1+b.length)<=_; omega) (zi ?_))))
  rw[hw]
  exact⟨⟨k+1,rfl,O,by show(cat s (cat [32] b)).length<=_; rw[yD,yD]; show s.length+(1+b.length)<=_; omega⟩,by simp only; omega⟩
 ·have J:=gm J
  have e:k=l.length:=O
  subst e
  exact hs
instance (a:Bool):Sp (dM a) True (λr=>r.length<=1):=⟨λ_=>by unfold dM; exact zg (λ_=>zi (V _)) λ_=>zi (V _)⟩
instance (a:Int):Sp (lS a) (-1<=a/\a<1000000000000000000) (λr=>r.length<=18):=⟨λh=>by
 unfold lS
 exact zg (λ_=>zi (by show 1<=18; decide)) λe=>za ⟨by have:=gm e; omega,h.2⟩ λb I=>zi I⟩
instance (p:qk):Sp (lT p) (Pn p) (λr=>r.length<=68051):=⟨λh=>by
 have M:rl p.2.2.1<=1700:=h.2
 unfold lT
 exact zg (λ_=>zi (by show 1<=68051; decide)) λ_=>zg (λ_=>za ⟨h.1,O⟩ λb I=>vk (by show b.length+1<=_; omega) (zi (by rw[yD]; show b.length+1<=_; omega))) λ_=>za ⟨h.1,O⟩ λb I=>zi (by show b.length<=_; omega)⟩
instance (l:List Bool) (c:zx):Sp (fW c l λa=>dM a) (l.length<=1000000000/\c.length<=10) (λr=>r.length<=c.length+l.length*2+1):=⟨λh =>
 z8Q (zb .bool) 1 _ l c (λ_ _=>Sp.sp trivial) (O) h.1⟩
instance (l:List Int) (c:zx):Sp (tp c l λa=>lS a) ((l.length<=1000000000/\ou l)/\c.length<=10) (λr=>r.length<=c.length+l.length*19+1):=⟨λh =>
 z8Q (zb (.int .i64)) 18 _ l c (λx N=>Sp.sp (h.1.2 x N)) (O) h.1.1⟩
instance (l:List Lf.Rat) (c:zx):Sp (mF c l λa=>gx a) (rs l/\c.length<=10) (λr=>r.length<=c.length+l.length*68051+1):=⟨λh =>
 z8Q (zb zl) 68050 _ l c (λx N=>vA (s:=inferInstance) ⟨(h.1.2 x N).1,by have:=(h.1.2 x N).2; omega⟩ λr hr=>by have:=(h.1.2 x N).2; omega) (by have:=h.1.1; omega) h.1.1⟩
instance (l:List qk) (c:zx):Sp (fX c l λa=>lT a) (Ps l/\c.length<=10) (λr=>r.length<=c.length+l.length*68052+1):=⟨λh =>
 z8Q (zb zm) 68051 _ l c (λx N=>Sp.sp (h.1.2 x N)) (by have:=h.1.1; omega) h.1.1⟩
instance (d:qe):Sp (dh d) (Dw d) (λr=>r.length<=68052*(d.1.length+d.2.2.1.length+d.2.2.2.2.1.length)+19*(d.2.1.length+d.2.2.2.1.length+d.2.2.2.2.2.1.length)+100):=⟨λ⟨h1,M,h3,h4,h5,h6,h7⟩=>by
 have k1:=h1.1
 have k3:=h3.1
 have k5:=h5.1
 unfold dh
 refine za ⟨h1,xn⟩ λa ha=>za ⟨M,xn⟩ λb I=>vk ?_ (za ⟨h3,xn⟩ λc hc=>vk ?_ (za ⟨⟨h4,h7⟩,xn⟩ λe he=>vk ?_ (za ⟨h5,xn⟩ λg hg=>vk ?_ (za ⟨h6,xn⟩ λk hk=>vk ?_ (vk ?_ (zi ?_))))))
 all_goals
  simp only[yD,List.length_cons,List.length_nil]at *
  omega⟩
theorem Dx.len{f:Form}{d:qe}(h:Dx f d):68052*(d.1.length+d.2.2.1.length+d.2.2.2.2.1.length)+19*(d.2.1.length+d.2.2.2.1.length+d.2.2.2.2.2.1.length)+100<=1000000000:=by
 obtain⟨-,hV,f1,f2,l1,l2,l3,l4,l5,l6⟩:=h
 have n1:=hV.1.1.1
 have n2:=hV.1.2.1.1
 omega
open T PL
theorem Jr{a b:zx}:wG a b=decide (a=b):=by unfold wG; rw[Bool.eq_iff_iff]; simp
def isD(b:UInt8):Bool:=decide (48<=b.toNat/\b.toNat<=57)
def fR(s:zx):Bool:=s.all isD
theorem MY{b:UInt8}:isD b=true↔48<=b.toNat/\b.toNat<=57:=by unfold isD; simp
theorem E9(s t:zx):fR (s++t)=(fR s&&fR t):=by unfold fR; rw[List.all_append]
theorem XL(b:UInt8)(t:zx):fR (b::t)=(isD b&&fR t):=rfl
theorem zb3{s:zx}(h:fR s=true):dgV s<10 ^ s.length:=by
 have key:∀ (s:zx) (n k:Nat),fR s=true->n<10 ^ k->s.foldl (λn b=>n*10+(b.toNat-48)) n<10 ^ (k+s.length):=by
  intro s
  induction s with
  | nil=>simp
  | cons b s ih =>
   intro n k J hn
   simp only[fR,List.all_cons,Bool.and_eq_true]at J
   have I:=MY.1 J.1
   have:=ih (n*10+(b.toNat-48)) (k+1) J.2 (by rw[Nat.pow_succ]; omega)
   rw[List.foldl_cons,List.length_cons]
   rwa [show k+(s.length+1)=k+1+s.length by omega]
 have:=key s 0 0 h (qz)
 simpa[dgV]using this
theorem KY(f:Nat->Bool):∀ (n k i:Nat),i<n->Wv .bool (mO .bool n) (Rl (e:=.bool) f n k) i=f (k+i)
 | 0,_,_,h=>O
 | n+1,k,0,_=>by
  rfl
 | n+1,k,i+1,h=>by
  show Wv .bool (mO .bool n) (Rl (e:=.bool) f n (k+1)) i=_
  rw[KY f n (k+1) i (O)]
  grind
abbrev dJ:zx:=[48,49,50,51,52,53,54,55,56,57]
theorem z5p:∀ c:Fin 256,dJ.contains (UInt8.ofNat c.val)=decide (48<=c.val/\c.val<=57):=by decide +kernel
theorem Ix{s:zx}{k:Nat}(h:k<s.length):ur s (k:Int)=((s[k]).toNat:Int):=by
 unfold ur; simp[h]
theorem IE(b:UInt8)(s:zx):fN 1 (((b::s).length:Nat):Int) (b::s)=s:=by unfold fN; simp
theorem Ru(s:zx)(b:UInt8):fN 0 ((s.length:Nat):Int) (s++[b])=s:=by unfold fN; simp
theorem VL(b:UInt8):(vf (lG dJ) (b.toNat:Int)).run=some (isD b):=by
 have I:b.toNat<256:=b.toNat_lt
 unfold vf
 rw[xi ⟨O,O⟩,wa]
 unfold lG
 rw[Int.toNat_natCast,KY _ 256 0 _ I,Nat.zero_add]
 exact congrArg some (z5p ⟨b.toNat,I⟩)
theorem Hj(s:zx)(hs:s.length<=1000000000):∃ r,(ju s (lG dJ)).run=some r/\fR r=fR s/\(fR r=true->r=[])/\r.length<=s.length:=by
 have:=T.cA (r:=uB (lG dJ)) (λt:zx=>fR t=fR s/\t.length<=s.length) (λt=>t.length) (λr:zx=>fR r=fR s/\(fR r=true->r=[])/\r.length<=s.length) (λt ht => ?_) (s:=s) ⟨rfl,V _⟩
 ·obtain⟨r,h1,M⟩:=this
  have h1:(jH (lG dJ) s).run=some r:=h1
  unfold ju
  rw[zu h1]
  exact⟨r,rfl,M⟩
 ·rcases List.eq_nil_or_concat t with rfl | ⟨l,b,rfl⟩
  ·right
   refine⟨[],?_,ht.1,λ_=>rfl,qz⟩
   rfl
  ·rw[List.concat_eq_append]at ht ⊢
   have R:(l++[b]).length=l.length+1:=qz
   have e1:qo (((l++[b]).length:Int)-1)=(l.length:Int):=by rw[R,qv (O) (O)]; omega
   have e2:ur (l++[b]) (l.length:Int)=(b.toNat:Int):=by rw[Ix (qz)]; simp
   unfold uB
   rw[vG (decide_eq_true (qz)),e1,vL _ (O) (xz),e2,zu (VL b)]
   cases I:isD b with
   | false =>
    right
    refine⟨_,by rfl,ht.1,λh => ?_,ht.2⟩
    rw[E9,XL,I]at h; simp at h
   | true =>
    left
    refine⟨l,by rw[j7 (by rfl),Xr _ (O) (O) (xz),wa,Ru],⟨?_,O⟩,O⟩
    rw[<- ht.1,E9,XL,I]; simp[fR]
theorem Dd(s:zx)(hs:s.length<=1000000000):∃ r,(jN s (lG dJ)).run=some r/\fR r=fR s/\(fR r=true->r=[]):=by
 have:=T.cA (r:=uW (lG dJ)) (λt:zx=>fR t=fR s) (λt=>t.length) (λr:zx=>fR r=fR s/\(fR r=true->r=[])) (λt ht => ?_) (s:=s) rfl
 ·obtain⟨r,h1,M⟩:=this
  have h1:(ko (lG dJ) s).run=some r:=h1
  unfold jN
  rw[zu h1]
  exact⟨r,rfl,M⟩
 ·cases t with
  | nil =>
   right
   refine⟨[],?_,ht,λ_=>rfl⟩
   rfl
  | cons b l =>
   have e2:ur (b::l) 0=(b.toNat:Int):=rfl
   unfold uW
   rw[vG (decide_eq_true (qz)),vL _ (O) (qz),e2,zu (VL b)]
   cases I:isD b with
   | false =>
    right
    refine⟨_,by rfl,ht,λh => ?_⟩
    rw[XL,I]at h; simp at h
   | true =>
    left
    refine⟨l,by rw[j7 (by rfl),Xr _ (O) (xz) (O),wa,IE],?_,qz⟩
    rw[<- ht,XL,I]; rfl
theorem BY:∀ (j:Nat) b,dJ[j]? = some b->b.toNat<128:=by
 intro j b h
 have:b∈dJ:=zI h
 simp at this
 rcases this with rfl | rfl | rfl | rfl | rfl | rfl | rfl | rfl | rfl | rfl<;>decide
theorem Ka(s:zx)(hs:s.length<=1000000000)(hn:s≠[]):∃ r,(cp s dJ).run=some r/\wG r []=fR s:=by
 obtain⟨r1,a1,a2,a3,a4⟩:=Hj s hs
 obtain⟨r,b1,b2,b3⟩:=Dd r1 (O)
 refine⟨r,?_,?_⟩
 ·have hm:(strings_makeASCIISet dJ).run=some (lG dJ,true):=by
   unfold strings_makeASCIISet
   rw[xi ⟨xn,BY⟩,wa]
  have e1:wG s []=false:=by rw[Jr]; simpa using hn
  unfold cp
  rw[j7 (by rw[e1]; rfl),xi (λh=>xz),j7 (by rfl),zu hm,UF,zu a1,zu b1,wa]
 ·rw[Jr]
  rw[a2]at b2
  cases h:fR s with
  | true=>grind
  | false =>
   rw[h]at b2
   refine decide_eq_false λz => ?_
   subst z; cases b2
instance (b:Bool):Sp (uu b) True (λr=>r.elim (λ_=>b=true) λ_=>b=false):=⟨λ_=>by unfold uu; exact zg (λe=>zi (by simpa using e)) λe=>zi (by simpa using e)⟩
instance (a:zx):Sp (mB a) (a.length<=1000000000) (λr=>r.elim (λn=>0<=n/\n<1000000000000000000) λ_=>True):=⟨λh=>by
 unfold mB
 refine xl (wj (P:=λz:Unit⊕Unit=>z.elim (λ_=>a≠[]/\a.length<=18/\fR a=true) λ_=>True) (zg (λe=>zg (λe2 => ?_) λ_=>za trivial λz hz => ?_) λ_=>za trivial λz hz => ?_) λz hz => ?_)
 ·have e1:a≠[]:=by rw[Jr]at e; simpa using e
  obtain⟨r,h1,M⟩:=Ka a h e1
  refine xl (kY h1 (za trivial λz hz => ?_))
  rcases z with z | z
  ·have e2:=uA e2
   exact zi ⟨e1,O,M.symm.trans hz⟩
  ·exact zi trivial
 ·rcases z with z | z
  ·cases hz
  ·exact zi trivial
 ·rcases z with z | z
  ·cases hz
  ·exact zi trivial
 ·rcases z with z | z
  ·obtain⟨h1,M,h3⟩:=hz
   have h4:=zb3 h3
   have h5:10 ^ a.length<=10 ^ 18:=Nat.pow_le_pow_right (xn) M
   unfold strconv_Atoi
   refine xl (zj ⟨⟨h1,M⟩,λb I=>MY.1 (List.all_eq_true.1 h3 b I)⟩ (zi (za trivial λz hz => ?_)))
   rcases z with z | z
   ·exact zi ⟨by show(0:Int)<=(dgV a:Nat); omega,by show((dgV a:Nat):Int)<_; omega⟩
   ·exact zi trivial
  ·exact zi trivial⟩
open T PL
def z9p{α:Type}(k:Nat)(e:zx->T (α⊕Unit))(d:List zx)(f:Int):(Int×List α)->T ((Int×List α)⊕(List α⊕(Unit×List α)))
 | (b,a) =>
  .ite (decide (b<f))
   (oI b d <|
    T.bind (e (nth d b (zb .str))) <|
     Sum.elim (λc =>
      oA a k <|
      oM (a.length+(1:Nat)) (a++([c]:List α)).length <|
      .ret (.inl ((qo (b+(1:Int))),(a++([c]:List α)))))
     (λe =>
      U a <|
      .ret (.inr (.inr (e,a)))))
   (oC a <|
    U a <|
    .ret (.inr (.inl a)))
theorem MK{α:Type}(k:Nat)(hk:k<=64)(e:zx->T (α⊕Unit))(l:List zx)(P:α->Prop)(he:∀ s∈l,(e s).wp λr=>r.elim P λ_=>True)(hn:l.length<=1000000000) :
  (oZ (T.bind (T.loop (z9p k e l (l.length:Int)) ((0:Int),([]:List α))) (Sum.elim (λa=>oC a (U a (.ret (.inl a)))) λz=>.ret (.inr z.1))):T (List α⊕Unit)).wp λr=>r.elim (λa=>a.length<=1000000000/\∀ x∈a,P x) λ_=>True:=by
 refine zj ⟨rfl,rfl,rfl⟩ (zj rfl (xl (wj (P:=λz:List α⊕(Unit×List α)=>z.elim (λa=>a.length<=1000000000/\∀ x∈a,P x) λ_=>True) ?_ λz hz => ?_)))
 ·refine vS (σ:=Int×List α) (λz=>0<=z.1/\z.1<=l.length/\(z.2.length:Int)=z.1/\∀ x∈z.2,P x) (λz=>((l.length:Int)-z.1).toNat) ⟨X _,by show(0:Int)<=_; omega,rfl,nofun⟩ ?_
  rintro⟨i,a⟩ ⟨i0,i1,ha,hp⟩
  dsimp only at i0 i1 ha hp
  unfold z9p
  refine zg (λJ => ?_) λJ=>ze (z8 (zi ⟨O,hp⟩))
  have J:=uA J
  have hw:qo (i+1)=i+1:=qv (O) (O)
  refine qt ⟨i0,J⟩ (xl (wj (he _ (xx i0 J)) λz hz => ?_))
  rcases z with c | c
  ·have hm:(a.length+1)*k<=(a.length+1)*64:=Nat.mul_le_mul_left _ hk
   refine vT (O) (uo (UT _ _).symm (zi ?_))
   rw[hw]
   exact⟨⟨by show 0<=i+1; omega,by show i+1<=_; omega,by show((a++[c]).length:Int)=i+1; rw[UT]; omega,yT hp hz⟩,by simp only; omega⟩
  ·exact z8 (zi trivial)
 ·rcases z with z | z
  ·exact ze (z8 (zi hz))
  ·exact zi trivial
def bL(l:List zx):Prop:=l.length<=1000000000/\∀ s∈l,s.length<=1000000000
instance (s:zx):Sp (dm s) True (λr=>r.elim (λa=>rg a/\rl a<=1700) λ_=>True):=⟨λ_=>by
 unfold dm
 refine za trivial λa ha=>za trivial λz _ => ?_
 rcases z with z | z
 ·exact zi ha
 ·exact zi trivial⟩
instance (s:zx):Sp (mC s) True (λr=>r.elim (λ_=>True) λ_=>True):=⟨λ_=>by
 unfold mC
 refine zg (λ_=>za trivial λz _ => ?_) λ_=>za trivial λz _ => ?_
 ·rcases z with z | z<;>exact zi trivial
 ·rcases z with z | z<;>exact zi trivial⟩
instance (s:zx):Sp (mD s) (s.length<=1000000000) (λr=>r.elim (λn => -1<=n/\n<1000000000000000000) λ_=>True):=⟨λh=>by
 unfold mD
 refine zg (λ_=>zi (by show(-1:Int) <= -1/\(-1:Int)<1000000000000000000; decide)) λ_=>za h λz hz => ?_
 rcases z with z | z
 ·exact zi ⟨by have:0<=z:=hz.1; show -1<=z; omega,hz.2⟩
 ·exact zi trivial⟩
instance (a b:zx):Sp (strings_CutSuffix a b) (a.length<=1000000000/\b.length<=1000000000) (λ_=>True):=⟨λ⟨h,k⟩=>by
 have hw:qo ((a.length:Int)-b.length)=a.length-b.length:=qv (O) (O)
 unfold strings_CutSuffix jU jW
 rw[hw]
 refine xl (xl (zj (λe => ?_) (zi (zg (λ_=>zi (zi trivial)) λe=>zj ?_ (zi (zi trivial))))))
 ·have:=uA e
  exact⟨O,O,O⟩
 ·have:(b.length:Int)<=a.length:=by
   by_cases q:(b.length:Int)<=a.length
   ·exact q
   ·rw[decide_eq_false q]at e; cases e
  exact⟨O,O,O⟩⟩
instance (s:zx):Sp (mE s) (s.length<=1000000000) (λr=>r.elim Pn λ_=>True):=⟨λh=>by
 unfold mE
 refine zg (λ_=>za ⟨xn,xn⟩ λa ha=>zi ⟨ha.1,?_⟩) λ_=>za ⟨h,xn⟩ λx _=>za trivial λz hz => ?_
 ·have M:rl a<=2:=ha.2
  exact E M (xn)
 ·rcases z with z | z
  ·exact zi hz
  ·exact zi trivial⟩
instance (b:List zx) (u:Unit):Sp (uL b u) (bL b) (λr=>r.elim rs λ_=>True):=⟨λh=>MK 56 (xn) _ b _ (λ_ _=>Sp.sp trivial) h.1⟩
instance (b:List zx) (u:Unit):Sp (uM b u) (bL b) (λr=>r.elim (λa=>a.length<=1000000000/\∀ x∈a,True) λ_=>True):=⟨λh=>MK 1 (xn) _ b (λ_=>True) (λ_ _=>Sp.sp trivial) h.1⟩
instance (b:List zx) (u:Unit):Sp (kT b u) (bL b) (λr=>r.elim (λa=>a.length<=1000000000/\ou a) λ_=>True):=⟨λh=>MK 8 (xn) _ b _ (λs hs=>Sp.sp (h.2 s hs)) h.1⟩
instance (b:List zx) (u:Unit):Sp (ji b u) (bL b) (λr=>r.elim Ps λ_=>True):=⟨λh=>MK 64 (xn) _ b _ (λs hs=>Sp.sp (h.2 s hs)) h.1⟩
instance (a:gG):Sp (bf a) (a.1.length<=1000000000) (λr=>r.elim (λz=>z.1.length<=1000000000/\z.2.1.length<=1000000000/\z.1.length<1000000000+1) λ_=>True):=⟨λh=>by
 unfold bf
 refine za h λ⟨b,c,d⟩ hz=>za trivial λz _ => ?_
 have hz:b.length+c.length<=a.1.length:=hz
 rcases z with z | z
 ·exact zi ⟨by show b.length<=_; omega,by show c.length<=_; omega,by show b.length<_; omega⟩
 ·exact zi trivial⟩
instance (w:zx) (a:gG):Sp (wO w a) (a.1.length<=1000000000) (λr=>r.elim (λz=>bL z.1/\z.2.1.length<=1000000000) λ_=>True):=⟨λh=>by
 unfold wO
 refine za h λz hz => ?_
 rcases z with⟨c,b⟩ | z
 ·obtain⟨h1,M,-⟩:=hz
  have h1:c.length<=1000000000:=h1
  have M:b.1.length<=1000000000:=M
  have h3:=z3a 32 c
  have h4:(lj 32 c).length<=tB (lj 32 c)/\(lj 32 c=[]->tB (lj 32 c)=0):=by
   generalize lj 32 c=l
   refine⟨?_,λe=>by rw[e]; rfl⟩
   induction l with
   | nil=>exact B _
   | cons a l ih=>unfold tB at *; simp; omega
  have h5:1<=(lj 32 c).length:=by
   rcases Nat.eq_zero_or_pos (lj 32 c).length with e | e
   ·have:=h4.2 (List.eq_nil_of_length_eq_zero e); omega
   ·exact e
  unfold strings_Split
  refine xl (zj ⟨O,rfl⟩ (zi (qt ⟨xn,by show(0:Int)<(lj 32 c).length; omega⟩ (za trivial λz _ => ?_))))
  rcases z with z | z
  ·refine zj ⟨xn,by show(1:Int)<=(lj 32 c).length; omega,X _⟩ (zi ⟨⟨?_,λs hs => ?_⟩,M⟩)
   ·show(zL _ (zM _ (lj 32 c))).length<=_
    rw[List.length_drop,List.length_take]
    show min _ _-1<=_
    omega
   ·exact E (h3.2 s (List.mem_of_mem_take (List.mem_of_mem_drop hs))) h1
  ·exact zi trivial
 ·exact zi trivial⟩
theorem cu0:zw 0 0 0 0:=⟨rfl,rfl,rfl⟩
instance (a:Int):Sp (fT a) True (λr=>r=a):=⟨λ_=>by unfold fT; exact uz rfl (zi rfl)⟩
instance (u:Unit) (a:Int):Sp (wD u a) True (λr=>r=2):=⟨λ_=>by unfold wD; exact wC rfl (uz rfl (zi rfl))⟩
theorem J8{p:Prop} (h:p:=by
 refine za trivial λ_ e => ?_
 subst e
 repeat' (with_reducible first | refine z8 ?_ | refine ze ?_ | refine zj cu0 ?_ | refine zj (Eq.refl 0) ?_)
 exact zi (nz (a:=2) (xn))):p:=h
abbrev R8(r:Unit×Int×List Lf.Rat×List Bool×List Lf.Rat×List Int×List qk×List Bool):qe:=(r.2.2.1,r.2.2.2.1,r.2.2.2.2.1,r.2.2.2.2.2.1,r.2.2.2.2.2.2.1,r.2.2.2.2.2.2.2,())
instance (s:zx):Sp (oy s) (s.length<=1000000000) (λr=>r.2.1=0->Dw (R8 r)):=⟨λhs=>by
 unfold oy
 refine za hs λz hz => ?_
 rcases z with⟨k,l⟩ | ⟨y,l⟩
 rotate_left
 ·exact J8
 refine za hz.1 λz h1 => ?_
 rcases z with a | z
 rotate_left
 ·exact J8
 have R:l.1.length<=1000000000:=hz.2
 clear hz
 refine za R λz hz => ?_
 rcases z with⟨k,l⟩ | ⟨y,l⟩
 rotate_left
 ·exact J8
 refine za hz.1 λz M => ?_
 rcases z with b | z
 rotate_left
 ·exact J8
 have R:l.1.length<=1000000000:=hz.2
 clear hz
 refine za R λz hz => ?_
 rcases z with⟨k,l⟩ | ⟨y,l⟩
 rotate_left
 ·exact J8
 refine za hz.1 λz h3 => ?_
 rcases z with c | z
 rotate_left
 ·exact J8
 have R:l.1.length<=1000000000:=hz.2
 clear hz
 refine za R λz hz => ?_
 rcases z with⟨k,l⟩ | ⟨y,l⟩
 rotate_left
 ·exact J8
 refine za hz.1 λz h4 => ?_
 rcases z with d | z
 rotate_left
 ·exact J8
 have R:l.1.length<=1000000000:=hz.2
 clear hz
 refine za R λz hz => ?_
 rcases z with⟨k,l⟩ | ⟨y,l⟩
 rotate_left
 ·exact J8
 refine za hz.1 λz h5 => ?_
 rcases z with e | z
 rotate_left
 ·exact J8
 have R:l.1.length<=1000000000:=hz.2
 clear hz
 refine za R λz hz => ?_
 rcases z with⟨k,l⟩ | ⟨y,l⟩
 rotate_left
 ·exact J8
 refine za hz.1 λz h6 => ?_
 rcases z with f | z
 rotate_left
 ·exact J8
 dsimp only[Sum.elim_inl]
 rw[cJ,cJ,cJ,cJ,cJ,cJ]
 have hD:Dw (a,b,c,d,e,f,()):=⟨h1,M.1,h3,h4.1,h5,h6.1,h4.2⟩
 refine z96 (za hD λv _=>za trivial λz _ => ?_)
 rcases z with z | z
 rotate_left
 ·exact J8
 refine za trivial λw _ => ?_
 repeat' (with_reducible first | refine z8 ?_ | refine ze ?_)
 exact zi λ_=>hD⟩
instance (f:Form) (s:zx):Sp (sD f s) (FW 8200 f/\s.length<=1000000000) (λr=>r.2=0->Dx f r.1):=⟨λ⟨hF,hs⟩=>by
 unfold sD
 refine za hs λ⟨l,g,a,b,c,d,e,h⟩ hz => ?_
 dsimp only
 rw[cJ,cJ,cJ,cJ,cJ,cJ]
 refine zg (λq=>zi (nz (by simpa using q))) λq=>z96 (za ⟨hF,hz (by simpa using q)⟩ λi hi=>zg (λ_=>zi (nz (a:=1) (xn))) λq2=>z96 (zi λ_=>hi (by simpa using q2)))⟩
open T PL
def vh(v:wm):Prop:=v.1.length<=20000/\v.2.1.length<=20000/\rs v.2.2.1
instance (f:Form) (l:List Lf.Rat):Sp (r7 f l) (FV f/\rs l) (λr=>vh r):=⟨λh=>by
 obtain⟨h1,_⟩:=FV.fe h.1
 have M:l.length<=1000000000:=h.2.1
 unfold r7 vh
 exact goe⟩
instance (d:zx) (a:wm) (g:List Lf.Rat):Sp (VF d a g) (vh a/\rs g) (λr=>rg r.1/\rl r.1<=1700):=⟨λ⟨⟨h1,M,h3⟩,hg⟩=>by
 unfold VF
 exact za (O) λb I=>zg (λ_=>za hg λe he=>zi ⟨he.1,he.2.1⟩) λ_=>za (O) λc hc=>zg (λ_=>zi ⟨Xs.1,E (zK Xs.2) (xn)⟩) λ_=>za h3 λf hf=>zi ⟨hf.1,hf.2.1⟩⟩
instance (e:Expr) (v:wm) (l:List Lf.Rat):Sp (Zl e v l) (EK e/\vh v/\rs l) (λr=>rg r.1/\rl r.1<=440000):=⟨λh=>by
 obtain⟨⟨n,hn,he⟩,hv,R⟩:=h
 unfold Zl
 refine wj (P:=λr=>∀ n,EO n e->rg r.1/\rl r.1<=1710*n) ?_ λr hr=>by have:=hr n he; exact⟨this.1,O⟩
 refine sk (x:=(e,v,l)) (λ(e,v,l)=>(∃ n,n<=256/\EO n e)/\vh v/\rs l) (λ(e,_)=>zJ e) (λ(e,_) (r:Lf.Rat×Int)=>∀ n,EO n e->rg r.1/\rl r.1<=1710*n) ?_ ?_ ⟨⟨n,hn,he⟩,hv,R⟩
 ·intro g g' hg x
  unfold y9
  exact mono
 ·intro⟨e,v,l⟩ ⟨⟨n,hn,he⟩,hv,R⟩ g hg
  have z:rg (false,[],[],())/\rl (false,[],[],())<=0:=⟨Xs.1,zK Xs.2⟩
  have hq:∀ {n'},EO n' e->n'=n:=λh=>h.uniq he
  suffices (y9 (λy0 y1 y2=>g (y0,y1,y2)) e v l).wp λr=>rg r.1/\rl r.1<=1710*n from wj this λr hr n' h=>by rw[hq h]; exact hr
  clear hq
  cases he with
  | num h1 M =>
   unfold y9
   simp only[Expr.kids,Expr.kind,Expr.num,Expr.name]
   exact uz rfl Ep
  | nam h1 =>
   unfold y9
   simp only[Expr.kids,Expr.kind,Expr.num,Expr.name]
   exact wC rfl (uz rfl Ep)
  | @neg m s i a h1 =>
   have ha:Sp (g (a,v,l)) True (λr=>rg r.1/\rl r.1<=1710*i):=⟨λ_=>wj (hg (a,v,l) ⟨⟨i,O,h1⟩,hv,R⟩ (by simp<;>omega)) λr hr=>hr i h1⟩
   unfold y9
   simp only[Expr.kids,Expr.kind,Expr.num,Expr.name]
   clear hg
   refine wC rfl (wC rfl (qt ⟨O,qz⟩ ?_))
   rw[show nth [a] 0 (zb .expr)=a from rfl]
   refine za trivial λr hr=>zg (λ_=>zi ?_) λ_=>uz rfl ?_
   ·grind
   ·exact Ep
  | @bin k m s i j a b h1 M h3 h4 =>
   have ha:Sp (g (a,v,l)) True (λr=>rg r.1/\rl r.1<=1710*i):=⟨λ_=>wj (hg (a,v,l) ⟨⟨i,O,h3⟩,hv,R⟩ (by simp<;>omega)) λr hr=>hr i h3⟩
   have I:Sp (g (b,v,l)) True (λr=>rg r.1/\rl r.1<=1710*j):=⟨λ_=>wj (hg (b,v,l) ⟨⟨j,O,h4⟩,hv,R⟩ (by simp<;>omega)) λr hr=>hr j h4⟩
   unfold y9
   simp only[Expr.kids,Expr.kind,Expr.num,Expr.name]
   clear hg
   refine wC (xz) (wC (xz) (qt ⟨O,by simp<;>omega⟩ ?_))
   rw[show nth [a,b] 0 (zb .expr)=a from rfl,show nth [a,b] 1 (zb .expr)=b from rfl]
   refine za trivial λr hr=>zg (λ_=>zi ?_) λ_=>wC (xz) (qt ⟨O,qz⟩ ?_)
   ·grind
   ·exact Ep⟩
instance (e:Expr) (v:wm) (l:List Lf.Rat):Sp (tH e v l) (EW KK e/\vh v/\rs l) (λr=>rg r.1/\rl r.1<=440000):=⟨λ⟨h1,M,h3⟩=>by
 unfold tH
 exact za h1 λb I=>zg (λ_=>zi ⟨Xs.1,E (zK Xs.2) (xn)⟩) λe=>za ⟨I (by simpa using e),M,h3⟩ λz hz=>zi hz⟩
instance (c:Check) (v:wm) (l:List Lf.Rat):Sp (oQ c v l) (EW KK c.2.2.2.1/\EW KK c.2.2.2.2.1/\vh v/\rs l) (λ_=>True):=⟨λ⟨h1,M,h3⟩=>by
 unfold oQ
 refine za ⟨h1,h3⟩ λx N=>za ⟨M,h3⟩ λy hy=>zg (λ_=>zi trivial) λ_=>za ⟨N.1,hy.1,?_⟩ λb _=>zg (λ_=>zi trivial) λ_=>zg (λ_=>zi trivial) λ_=>zi trivial
 have MV:=N.2
 have hy2:=hy.2
 omega⟩
open T PL
abbrev M3:=Int×wm×List zx
theorem zgY(f:Form)(d:qe)(i:Int)(x:List Bool)(p q:Int)(g:List Field)(e:wm)(b:List zx)(hg:g.length<=64)(I:b.length<=100000000) :
  (iO f d i x p q g (g.length:Int) (0,e,b)).wp λr=>∃ c:List zx,r=(e,c)/\c.length<=b.length+64:=by
 unfold iO
 refine vS (λz:M3=>∃ (k:Int) (c:List zx),z=(k,e,c)/\0<=k/\k<=g.length/\(c.length:Int)<=b.length+k) (λz:M3=>((g.length:Int)-z.1).toNat) ⟨0,b,rfl,xn,O,O⟩ ?_
 rintro _ ⟨k,c,rfl,k0,k1,hc⟩
 unfold iR
 refine zg (λJ => ?_) λJ=>ze (z8 (zi ⟨c,rfl,O⟩))
 have J:=uA J
 have hw:qo (k+1)=k+1:=qv (O) (O)
 refine qt ⟨k0,J⟩ (zj (λ_ _ h=>⟨k0,by have:=gm h; omega⟩) (zg (λ_=>vT (O) (uo (UT _ _).symm (zi ?_))) λ_=>ze (z8 (zi ?_))))
 ·rw[hw]
  exact⟨⟨k+1,_,rfl,O,O,by rw[UT]; omega⟩,by simp only; omega⟩
 ·rw[hw]
  exact⟨⟨k+1,_,rfl,O,O,O⟩,by simp only; omega⟩
theorem zgZ(f:Form)(d:qe)(i:Int)(x:List Bool)(p q:Int)(g:List Check)(e:wm)(b:List zx)(hg:g.length<=8200/\∀ x∈g,EW KK x.2.2.2.1/\EW KK x.2.2.2.2.1)(hv:vh e/\rs d.2.2.1)(I:b.length<=100000000) :
  (iP f d i x p q g (g.length:Int) (0,e,b)).wp λr=>∃ c:List zx,r=(e,c)/\c.length<=b.length+8200:=by
 have T9:=hg.1
 unfold iP
 refine vS (λz:M3=>∃ (k:Int) (c:List zx),z=(k,e,c)/\0<=k/\k<=g.length/\(c.length:Int)<=b.length+k) (λz:M3=>((g.length:Int)-z.1).toNat) ⟨0,b,rfl,xn,O,O⟩ ?_
 rintro _ ⟨k,c,rfl,k0,k1,hc⟩
 unfold iS
 refine zg (λJ => ?_) λJ=>ze (z8 (zi ⟨c,rfl,O⟩))
 have J:=uA J
 have hw:qo (k+1)=k+1:=qv (O) (O)
 have N:=hg.2 _ (xx (d:=zb xj) k0 J)
 refine qt ⟨k0,J⟩ (xl (wj (P:=λz=>∃ (q:Bool) (h:Check),z=(q,e,c,h)) (zg (λ_=>za ⟨N.1,N.2,hv⟩ λq _=>ze (z8 (zi ⟨_,_,rfl⟩))) λ_=>ze (z8 (zi ⟨_,_,rfl⟩))) ?_))
 rintro _ ⟨q,h,rfl⟩
 refine zg (λ_=>vT (O) (uo (UT _ _).symm (zi ?_))) λ_=>ze (z8 (zi ?_))
 ·rw[hw]
  exact⟨⟨k+1,_,rfl,O,O,by rw[UT]; omega⟩,by simp only; omega⟩
 ·rw[hw]
  exact⟨⟨k+1,_,rfl,O,O,O⟩,by simp only; omega⟩
instance (f:Form) (d:qe):Sp (iN f d) (Dx f d) (λr=>r.length<=70000000):=⟨λ⟨hD,hV,f1,_⟩=>by
 have n3:=hV.1.2.2.1.1
 have n6:=hV.1.2.2.2.2.2
 unfold iN
 refine za ⟨hV,hD.1⟩ λe he=>za hV.1 λx N=>zj cu0 (zj rfl (xl (wj (P:=λz=>z.2.length<=70000000) ?_ λz hz=>z8 (zi (by rw[cJ]; exact hz)))))
 unfold sU
 refine vS (λz:M3=>∃ (k:Int) (c:List zx),z=(k,e,c)/\0<=k/\k<=x.length/\(c.length:Int)<=8264*k) (λz:M3=>((x.length:Int)-z.1).toNat) ⟨0,[],rfl,xn,O,xn⟩ ?_
 rintro _ ⟨k,c,rfl,k0,k1,hc⟩
 unfold iQ
 refine zg (λJ => ?_) λJ=>ze (z8 (zi (by show c.length<=_; omega)))
 have J:=uA J
 have hw:qo (k+1)=k+1:=qv (O) (O)
 refine qt ⟨k0,J⟩ (zg (λ_=>ze (z8 (zi ?_))) λ_=>ze (z8 (xl (wj (zgY f d k x _ k f.2.2.2.1 e c f1 (O)) ?_))))
 ·rw[hw]
  exact⟨⟨k+1,_,rfl,O,O,O⟩,by simp only; omega⟩
 ·rintro _ ⟨c1,rfl,h1⟩
  refine ze (z8 (xl (wj (zgZ f d k x _ k f.2.2.2.2.2.1 e c1 ⟨n6.1,λy hy=>(n6.2 y hy).2⟩ ⟨he,hD.2.2.1⟩ (O)) ?_)))
  rintro _ ⟨c2,rfl,M⟩
  refine ze (z8 (zi ?_))
  rw[hw]
  exact⟨⟨k+1,_,rfl,O,O,O⟩,by simp only; omega⟩⟩
def it(l:List Param):Prop:=∀ x∈l,x.1.length<=24/\rg x.2.1/\rl x.2.1<=1700
instance (f:Form) (d:qe):Sp (W9 f d) (Dx f d) (λr=>it r/\r.length<=64):=⟨λ⟨hD,hV,f1,_⟩=>by
 have hn:=λx N=>(hV.2.2.2.2.1 x N).1
 have n3:=hV.1.2.2.1.1
 unfold W9
 refine za hV.1 λo ho=>zj cu0 (zj rfl (xl (wj (P:=λz=>it z/\z.length<=64) ?_ λz hz=>z8 (zi (by rw[cJ]; exact hz)))))
 unfold UC
 refine vS (λz:Int×List Param=>0<=z.1/\z.1<=f.2.2.2.1.length/\(z.2.length:Int)<=z.1/\it z.2) (λz=>((f.2.2.2.1.length:Int)-z.1).toNat) ⟨X _,by show(0:Int)<=_; omega,X _,nofun⟩ ?_
 rintro⟨k,a⟩ ⟨k0,k1,ha,hi⟩
 dsimp only at k0 k1 ha hi
 unfold Q5
 refine zg (λJ => ?_) λJ=>ze (z8 (zi ⟨hi,O⟩))
 have J:=uA J
 have hw:qo (k+1)=k+1:=qv (O) (O)
 have N:=hn _ (xx (d:=zb qw) k0 J)
 refine qt ⟨k0,J⟩ (zj (λh1 M=>⟨Int.not_lt.1 (gm h1),Int.not_le.1 (gm M)⟩) (zg (λ_=>ze (z8 (zi ?_))) λ_=>za ⟨xn,xn⟩ λj hj=>xl (wj (P:=λz=>∃ r:Lf.Rat,z=(a,nth f.2.2.2.1 k (zb qw),r)/\rg r/\rl r<=1700) (zg (λhv => ?_) λ_=>ze (z8 (zi ⟨j,rfl,hj.1,?_⟩))) ?_)))
 ·rw[hw]
  exact⟨⟨by show 0<=k+1; omega,by show k+1<=_; omega,by show(a.length:Int)<=k+1; omega,hi⟩,by simp only; omega⟩
 ·have hv:=uA hv
  have q:=D4 hD.2.2.1 k k0 hv
  refine qt ⟨k0,hv⟩ (za ⟨q.1,E q.2 (xn)⟩ λr hr=>ze (z8 (zi ⟨r,rfl,hr.1,?_⟩)))
  have:=hr.2.1
  have:=q.2
  omega
 ·have:=hj.2; omega
 ·rintro _ ⟨r,rfl,hr,hr2⟩
  refine vT (O) (uo (UT _ _).symm (zi ?_))
  rw[hw]
  exact⟨⟨by show 0<=k+1; omega,by show k+1<=_; omega,by show((a++[_]).length:Int)<=k+1; rw[UT]; omega,yT hi ⟨N,hr,hr2⟩⟩,by simp only; omega⟩⟩
instance (l:List Param):Sp (mL l) (it l/\l.length<=64) (λ_=>True):=⟨λ⟨hi,hn⟩=>by
 unfold mL
 refine zj cu0 (zj rfl (xl (wj (P:=λz=>bt z.2/\z.2.length<=10000000) ?_ λz hz=>ze (z8 ?_))))
 ·unfold Z9
  refine vS (λz:Int×Unit×List Int=>0<=z.1/\z.1<=l.length/\bt z.2.2/\(z.2.2.length:Int)<=70000*z.1) (λz=>((l.length:Int)-z.1).toNat) ⟨X _,by show(0:Int)<=_; omega,(λ_ h=>nomatch h),xn⟩ ?_
  rintro⟨k,u,a⟩ ⟨k0,k1,I,ha⟩
  dsimp only at k0 k1 I ha
  unfold mj
  refine zg (λJ => ?_) λJ=>ze (z8 (zi ⟨I,by show a.length<=_; omega⟩))
  have J:=uA J
  have hw:qo (k+1)=k+1:=qv (O) (O)
  obtain⟨x1,x2,x3⟩:=hi _ (xx (d:=zb qg) k0 J)
  refine qt ⟨k0,J⟩ (vk (by show _+1<=_; omega) (za ⟨x2,E x3 (xn)⟩ λs hs => ?_))
  have hs:s.length<=40*rl (nth l k (zb qg)).2.1+50:=hs
  have l1:(cat (nth l k (zb qg)).1 [32]).length=(nth l k (zb qg)).1.length+1:=yD _ _
  have l2:(cat (cat (nth l k (zb qg)).1 [32]) s).length=(nth l k (zb qg)).1.length+1+s.length:=by rw[yD,l1]
  have l3:(cat (cat (cat (nth l k (zb qg)).1 [32]) s) [10]).length=(nth l k (zb qg)).1.length+1+s.length+1:=by rw[yD,l2]; rfl
  refine vk (O) (vk (by rw[l2]; show _+1<=_; omega) (ze (z8 (za (by rw[l3]; omega) λ⟨h,i,e⟩ he=>ze (z8 (zi ?_))))))
  have he:e=a++bytesOf _:=he
  subst he
  rw[hw]
  exact⟨⟨by show 0<=k+1; omega,by show k+1<=_; omega,C2 I _,by show((a++bytesOf _).length:Int)<=_; rw[List.length_append,Z1,l3]; omega⟩,by simp only; omega⟩
 ·unfold pD z3g
  exact xl (zj ⟨hz.1,E hz.2 (xn)⟩ (zi (zi trivial)))⟩
open T PL
def Ei(e:zn):Prop:=Dx e.1 e.2.1/\Hw e.2.2.1/\pl e.2.2.2.1
def An(e:zn)(r:Answer×zn):Prop:=Ei r.2/\r.1.2.1.length<=70000000/\r.2.1=e.1/\(r.1.1≠0->r.2=e/\r.1.2.2.1=[])
def Pu(e e':zn):Prop:=e'.2.2.1.1.length=min 32 (e.2.2.1.1.length+1)/\e'.2.2.1.2.1.length=0
def Un(e e':zn):Prop:=e'.2.2.1.1.length+1=e.2.2.1.1.length/\e'.2.2.1.2.1.length=e.2.2.1.2.1.length+1
def Re(e e':zn):Prop:=e'.2.2.1.1.length=e.2.2.1.1.length+1/\e'.2.2.1.2.1.length+1=e.2.2.1.2.1.length
theorem An.er{e:zn}(h:Ei e)(n:Int)(l:List zx)(R:l.length<=70000000):An e ((n,l,[],()),e):=⟨h,R,rfl,λ_=>⟨rfl,rfl⟩⟩
instance (d:qe) (l:List zx) (n:Int) (e:zn):Sp (vv d l n e) (Ei e/\(n=0->Dx e.1 d)/\l.length<=1) (λr=>An e r/\(r.1.1=0->Pu e r.2)/\(r.1.1≠0->r.2.2.2.1=e.2.2.1)):=⟨λ⟨he,J,R⟩=>by
 have hF:FW 8200 e.1:=he.1.2.1.1
 unfold vv
 refine zg (λh=>zi ⟨An.er he n l (O),nz (by simpa using h),λ_=>rfl⟩) λh => ?_
 have J:=J (by simpa using h)
 refine za he.1.1 λs hs=>za ⟨he.2.1,E hs he.1.len⟩ λc hc=>za ⟨hF,he.2.2⟩ λg hg=>zi ⟨⟨⟨J,hc.1,hg⟩,B _,rfl,nofun⟩,λ_=>hc.2,nofun⟩⟩
instance (i n:Int) (e:zn):Sp (jK i n e) (Ei e/\(n=0->pl i)) (λr=>An e r/\r.2.2.2.1=e.2.2.1/\r.2.2.1=e.2.1):=⟨λ⟨he,hi⟩=>by
 unfold jK
 exact zg (λh=>zi ⟨An.er he n [] (B _),rfl,rfl⟩) λh=>zi ⟨⟨⟨he.1,he.2.1,hi (by simpa using h)⟩,B _,rfl,nofun⟩,rfl,rfl⟩⟩
theorem OO(f:Form->List Bool->Int->T (Int×Bool))(hf:∀ x l a,FW 8200 x/\pl a->(f x l a).wp λr=>pl r.1)(e:zn)(he:Ei e):(j6 f e).wp λr=>An e r/\r.2.2.2.1=e.2.2.1/\r.2.2.1=e.2.1:=by
 have hF:FW 8200 e.1:=he.1.2.1.1
 unfold j6
 exact xl (wj (hf _ _ _ ⟨hF,he.2.2⟩) λ⟨b,c⟩ I=>zg (λ_=>zi ⟨An.er he 13 [] (B _),rfl,rfl⟩) λ_=>za ⟨he,λ_=>I⟩ λ⟨d,e⟩ hr=>zi hr)
theorem Fy(j:uG->zx->T (uG×zx×Bool))(P:uG->uG->Prop)(hj:∀ h s,Hw h/\s.length<=1000000000->(j h s).wp λr=>(Hw r.1/\r.2.1.length<=1000000000)/\(r.2.2=true->P h r.1))(e:zn)(he:Ei e):(uP j e).wp λr=>An e r/\(r.1.1=0->P e.2.2.1 r.2.2.2.1)/\(r.1.1≠0->r.2.2.2.1=e.2.2.1):=by
 have hF:FW 8200 e.1:=he.1.2.1.1
 unfold uP
 refine za he.1.1 λs hs=>xl (wj (hj _ _ ⟨he.2.1,E hs he.1.len⟩) λ⟨d,g,h⟩ J=>zg (λ_=>zi ⟨An.er he 13 [] (B _),nz (a:=13) (xn),λ_=>rfl⟩) λhh=>za ⟨hF,J.1.2⟩ λ⟨b,x⟩ I=>zg (λh=>zi ⟨An.er he x [] (B _),nz (by simpa using h),λ_=>rfl⟩) λh => ?_)
 have I:Dx e.1 b:=I (by simpa using h)
 exact za ⟨hF,he.2.2⟩ λi hi=>zi ⟨⟨⟨I,J.1.1,hi⟩,B _,rfl,nofun⟩,λ_=>J.2 (by simpa using hh),nofun⟩
instance (e:zn):Sp (kO e) (Ei e) (λr=>An e r/\r.2.2.2.1=e.2.2.1):=⟨λhe=>by
 have hD:Dx e.1 e.2.1:=he.1
 unfold kO
 exact za hD λd J=>zg (λ_=>zi ⟨An.er he 15 d J,rfl⟩) λ_=>za hD λl R=>za R λs _=>zi ⟨⟨he,B _,rfl,nofun⟩,rfl⟩⟩
def Kn(k:Int)(e:zn)(r:Answer×zn):Prop :=
 (r.1.1=0->1<=k->k<=5->Pu e r.2)/\(r.1.1=0->k=9->Un e r.2)/\(r.1.1=0->k=10->Re e r.2)/\(¬ (r.1.1=0/\(1<=k/\k<=5\/k=9\/k=10))->r.2.2.2.1=e.2.2.1)/\(6<=k->k<=8->r.2.2.1=e.2.1)
def Ov(o:Op):Prop:=rg o.2.2.1/\rl o.2.2.1<=1700
theorem eqI{a b:Int}(h:(a==b)=true):a=b:=eq_of_beq h
theorem neI{a b:Int}(h:(a==b)=false):a≠b:=beq_eq_false_iff_ne.1 h
theorem k23{k:Int}(h:(bif (k==2)then(k==2)else(k==3))=true):1<=k/\k<=5:=by
 cases q:k==2 with
 | true=>have:=eqI q; omega
 | false=>rw[q]at h; have:=eqI h; omega
theorem Kn.ch{k:Int}{e:zn}{r:Answer×zn}(hk:1<=k/\k<=5)(h:An e r/\(r.1.1=0->Pu e r.2)/\(r.1.1≠0->r.2.2.2.1=e.2.2.1)):An e r/\Kn k e r :=
 ⟨h.1,λq _ _=>h.2.1 q,O,O,λq=>h.2.2 λz=>q ⟨z,.inl hk⟩,O⟩
theorem Kn.tu{k:Int}{e:zn}{r:Answer×zn}(hk:6<=k/\k<=8)(h:An e r/\r.2.2.2.1=e.2.2.1/\r.2.2.1=e.2.1):An e r/\Kn k e r :=
 ⟨h.1,O,O,O,λ_=>h.2.1,λ_ _=>h.2.2⟩
instance (o:Op) (e:zn):Sp (gH o e) (Ei e/\Ov o) (λr=>An e r/\Kn o.1 e r):=⟨λ⟨he,hv⟩=>by
 have hF:FW 8200 e.1:=he.1.2.1.1
 have hD:Dw e.2.1:=he.1.1
 unfold gH
 dsimp only
 refine zg (λk=>za ⟨hF,hD,hv⟩ λ⟨x,y,z⟩ hz=>za ⟨he,hz.1,hz.2⟩ λr hr=>zi (Kn.ch (by have:=eqI k; omega) hr)) λk1 => ?_
 refine zg (λk=>za ⟨hF,hD⟩ λ⟨x,y,z⟩ hz=>za ⟨he,hz.1,hz.2⟩ λr hr=>zi (Kn.ch (k23 k) hr)) λk2 => ?_
 refine zg (λk=>za ⟨hF,hD,hv⟩ λ⟨x,y,z⟩ hz=>za ⟨he,hz.1,hz.2⟩ λr hr=>zi (Kn.ch (by have:=eqI k; omega) hr)) λk4 => ?_
 refine zg (λk=>za ⟨hF,hD⟩ λ⟨x,y,z⟩ hz=>za ⟨he,hz.1,hz.2⟩ λr hr=>zi (Kn.ch (by have:=eqI k; omega) hr)) λk5 => ?_
 refine zg (λk=>xl (wj (OO _ (λx l a h=>Sp.sp h) e he) λr hr=>zi (Kn.tu (by have:=eqI k; omega) hr))) λk6 => ?_
 refine zg (λk=>xl (wj (OO _ (λx l a h=>Sp.sp h) e he) λr hr=>zi (Kn.tu (by have:=eqI k; omega) hr))) λk7 => ?_
 refine zg (λk=>za hF λ⟨x,y⟩ N=>za ⟨he,N⟩ λr hr=>zi (Kn.tu (by have:=eqI k; omega) hr)) λk8 => ?_
 refine zg (λk=>xl (wj (Fy _ (λh h'=>h'.1.length+1=h.1.length/\h'.2.1.length=h.2.1.length+1) (λh s q=>Sp.sp q) e he) λr hr=>zi ?_)) λk9 => ?_
 ·have k:=eqI k
  exact⟨hr.1,O,λq _=>hr.2.1 q,O,λq=>hr.2.2 λz=>q ⟨z,.inr (.inl k)⟩,O⟩
 refine zg (λk=>xl (wj (Fy _ (λh h'=>h'.1.length=h.1.length+1/\h'.2.1.length+1=h.2.1.length) (λh s q=>Sp.sp q) e he) λr hr=>zi ?_)) λk10 => ?_
 ·have k:=eqI k
  exact⟨hr.1,O,O,λq _=>hr.2.1 q,λq=>hr.2.2 λz=>q ⟨z,.inr (.inr k)⟩,O⟩
 have n1:=neI k1
 have n2:Ne (α:=Int) o.1 2:=λq=>by rw[q]at k2; cases k2
 have n3:Ne (α:=Int) o.1 3:=λq=>by rw[q]at k2; cases k2
 have n4:=neI k4
 have n5:=neI k5
 have n6:=neI k6
 have n7:=neI k7
 have n8:=neI k8
 have n9:=neI k9
 have n10:=neI k10
 have fin:∀ r:Answer×zn,An e r/\r.2.2.2.1=e.2.2.1->An e r/\Kn o.1 e r:=λr h=>⟨h.1,O,O,O,λ_=>h.2,O⟩
 exact zg (λk=>za he λr hr=>zi (fin _ hr)) λ_=>zi (fin _ ⟨An.er he 1 [] (B _),rfl⟩)⟩
instance (o:Op) (e:zn):Sp (vJ o e) (Ei e/\Ov o) (λr=>An e r/\Kn o.1 e r):=⟨λh=>by
 unfold vJ cE
 refine wC rfl (zg (λ_=>zi ⟨An.er h.1 14 [] (B _),?_⟩) λ_=>za h λ⟨b,c⟩ hr=>xl (wC rfl (zi (zi hr))))
 exact⟨nz (a:=14) (xn),nz (a:=14) (xn),nz (a:=14) (xn),λ_=>rfl,λ_ _=>rfl⟩⟩
open T PL
theorem rg_of{a:Lf.Rat}(h:wf zl a):rg a:=⟨λx N=>by have:=h.2.1 x N; exact⟨this.1,zG this.2 (xn)⟩,λx N=>by have:=h.2.2.1 x N; exact⟨this.1,zG this.2 (xn)⟩⟩
theorem zkX(a:Lf.Rat):rl a<=bk zl a:=by
 have e:bk zl a=1+((Xx (λ_=>1) a.2.1+1)+((Xx (λ_=>1) a.2.2.1+1)+1)):=rfl
 rw[e,Gs,Gs]
 unfold rl
 omega
theorem FB{α:Type}(f:α->Nat){l:List α}{x:α}(h:x∈l):f x<=Xx f l:=by
 induction l with
 | nil=>cases h
 | cons a r ih =>
  show _<=f a+Xx f r
  rcases List.mem_cons.1 h with rfl | h
  ·omega
  ·have:=ih h; omega
theorem Gr{α:Type}(f:α->Nat)(hf:∀ x,1<=f x):∀ l:List α,l.length<=Xx f l
 | []=>V _
 | a::r=>by have:=Gr f hf r; have:=hf a; show r.length+1<=f a+Xx f r; omega
theorem Mz(e:Expr):1<=bkE e:=by cases e; unfold bkE; omega
theorem DB:∀ (e:Expr),wfE e->bkE e<=KK->EW KK e
 | .mk k n s l,hw,I=>by
  unfold wfE at hw
  unfold bkE at I
  rw[MA]at I
  have h1:=Gr (bk .expr) (λx=>Mz x) l
  refine .mk (rg_of ⟨trivial,hw.2.1.2.1,hw.2.1.2.2.1,trivial⟩) (by unfold rl; omega) (O) (O) λx N => ?_
  have M:=FB (bk .expr) N
  have h3:bk .expr x=bkE x:=rfl
  exact DB x ((PH l).1 hw.2.2.2.1 x N) (O)
termination_by e=>zJ e
decreasing_by have:=zH N; simp; omega
theorem TB:∀ (τ:Ty) (x:den τ),1<=bk τ x
 | .int _,_=>V _
 | .bool,_=>V _
 | .str,_=>Nat.le_add_left ..
 | .sl _,_=>Nat.le_add_left ..
 | .nil,_=>V _
 | .cons a b,x=>E (TB a x.1) (Nat.le_add_right ..)
 | .expr,x=>Mz x
theorem bl{τ:Ty}(l:List (den τ)):l.length+1<=bk (.sl τ) l:=Nat.succ_le_succ (Gr _ (TB τ) l)
theorem bm{τ:Ty}{l:List (den τ)}{x:den τ}(h:x∈l):bk τ x+1<=bk (.sl τ) l:=Nat.succ_le_succ (FB _ h)
theorem zaz(f:Form)(hw:wf qy f)(I:bk qy f<=1048576):FW KK f:=by
 have kk:KK=2000000:=rfl
 obtain⟨w1,w2,w3,w4,w5,w6,-⟩:=hw
 have e:bk qy f=bk (.sl qs) f.1+(bk (.sl qg) f.2.1+(bk (.sl xp) f.2.2.1+(bk (.sl qw) f.2.2.2.1+(bk (.sl xm) f.2.2.2.2.1+(bk (.sl xj) f.2.2.2.2.2.1+1))))):=rfl
 have l1:=bl (τ:=qs) f.1
 have l2:=bl (τ:=qg) f.2.1
 have l3:=bl (τ:=xp) f.2.2.1
 have l4:=bl (τ:=qw) f.2.2.2.1
 have l5:=bl (τ:=xm) f.2.2.2.2.1
 have l6:=bl (τ:=xj) f.2.2.2.2.2.1
 refine⟨⟨O,λx N => ?_⟩,⟨O,λx N => ?_⟩,⟨O,λx N => ?_⟩,⟨O,λx N => ?_⟩,⟨O,λx N => ?_⟩,O,λx N => ?_⟩
 ·have m:=bm (τ:=qs) N
  have q:bk qs x=(x.1.length+1)+(1+1):=rfl
  omega
 ·have m:=bm (τ:=qg) N
  have q:bk qg x=(x.1.length+1)+(bk zl x.2.1+1):=rfl
  have:=zkX x.2.1
  exact⟨O,rg_of (w2 x N).2.1,O⟩
 ·have m:=bm (τ:=xp) N
  have q:bk xp x=(x.1.length+1)+((x.2.1.length+1)+1):=rfl
  exact⟨O,O⟩
 ·have m:=bm (τ:=qw) N
  have q:bk qw x=(x.1.length+1)+(1+(1+(1+1))):=rfl
  omega
 ·have m:=bm (τ:=xm) N
  have q:bk xm x=(x.1.length+1)+(1+((x.2.2.1.length+1)+(bkE x.2.2.2.1+(bkE x.2.2.2.2.1+1)))):=rfl
  have w:=w5 x N
  exact⟨O,O,DB _ w.2.2.2.1 (O),DB _ w.2.2.2.2.1 (O)⟩
 ·have m:=bm (τ:=xj) N
  have q:bk xj x=(x.1.length+1)+(1+(1+(bkE x.2.2.2.1+(bkE x.2.2.2.2.1+1)))):=rfl
  have w:=w6 x N
  exact⟨O,DB _ w.2.2.2.1 (O),DB _ w.2.2.2.2.1 (O)⟩
open T PL
instance (e:Expr) (n:Int):Sp (bY e n) (EW KK e /\ -1000000000<=n/\n<=1000000000) (λr=>r<=n/\min n 0-40000000<=r):=⟨λ⟨h,hn⟩=>by
 unfold bY
 refine sk (x:=(e,n)) (σ:=Expr×Int) (λ(e,n)=>EW KK e /\ -1000000000<=n/\n<=1000000000) (λ(e,_)=>zJ e) (λ(e,n) (r:Int)=>r<=n/\min n 0-40000000<=r) ?_ ?_ ⟨h,hn⟩
 ·intro g g' hg x
  unfold dw nU eK
  exact mono
 ·rintro⟨e,n⟩ ⟨he,h0,h1⟩ g hg
  cases he with
  | @mk kd q s L g1 g2 g3 g4 g5 =>
  have kk:KK=2000000:=rfl
  have r1:=(SQ (a:=q)).1
  have r2:=(SQ (a:=q)).2
  unfold dw nU
  simp only[Expr.kids,Expr.num,Expr.name]
  simp(disch:=omega) only[qv]
  refine xl (wj (vS (Q:=λr=>r<=n/\min n 0-40000000<=r) (λz:Int×Int=>0<=z.2/\z.2<=L.length/\z.1<=n/\min n 0-40000000<=z.1) (λz=>((L.length:Int)-z.2).toNat) ⟨X _,by show(0:Int)<=_; omega,by show n-3-_-_-_<=n; omega,by show _<=n-3-_-_-_; omega⟩ ?_) λr hr=>zi hr)
  rintro⟨b,i⟩ ⟨i0,i1,b0,b1⟩
  dsimp only at i0 i1 b0 b1
  unfold eK
  refine zg (λJ => ?_) λJ=>zi ⟨b0,b1⟩
  have J:=zF.1 J
  have d1:i<(L.length:Int):=uA J.1
  have d2:0<=b:=uA J.2
  have hw:qo (i+1)=i+1:=qv (O) (O)
  have hm:=xx (l:=L) (d:=zb .expr) i0 d1
  refine qt ⟨i0,d1⟩ (xl (wj (hg (nth L i (zb .expr),b) ⟨g5 _ hm,O,O⟩ (by have:=zH hm; simp; omega)) λr hr=>zi ?_))
  have hr:r<=b/\min b 0-40000000<=r:=hr
  rw[hw]
  exact⟨⟨by show 0<=i+1; omega,by show i+1<=_; omega,by show r<=n; omega,by show _<=r; omega⟩,by simp only; omega⟩⟩
abbrev Tm:Int := -1000000000
theorem L6{α:Type}(l:List α)(d:α)(R:l.length<=KK)(c0:Int)(hc:Tm<=c0/\c0<=600){hl:Int×Int->T ((Int×Int)⊕Int)}
  (step:∀ c i:Int,0<=i->i<l.length->0<=c->c<=600->nth l i d∈l->(hl (c,i)).wp λz=>∃ c',z=.inl (c',qo (i+1))/\c'<=c/\Tm<=c')
  (stop:∀ c i:Int,((decide (i<(l.length:Int)))&&(decide ((0:Int)<=c)))=false->(hl (c,i)).wp λz=>z=.inr c):(T.loop hl (c0,0)).wp λr=>r<=c0/\Tm<=r:=by
 have kk:KK=2000000:=rfl
 refine vS (λz:Int×Int=>0<=z.2/\z.2<=l.length/\z.1<=c0/\Tm<=z.1) (λz=>((l.length:Int)-z.2).toNat) ⟨X _,by show(0:Int)<=_; omega,X _,hc.1⟩ ?_
 rintro⟨c,i⟩ ⟨i0,i1,b0,b1⟩
 dsimp only at i0 i1 b0 b1
 cases J:(decide (i<(l.length:Int)))&&(decide ((0:Int)<=c))with
 | true =>
  have J:=zF.1 J
  have d1:i<(l.length:Int):=uA J.1
  have d2:0<=c:=uA J.2
  have hw:qo (i+1)=i+1:=qv (O) (O)
  refine wj (step c i i0 d1 d2 (O) (xx i0 d1)) ?_
  rintro _ ⟨c',rfl,q1,q2⟩
  rw[hw]
  exact⟨⟨by show 0<=i+1; omega,by show i+1<=_; omega,by show c'<=_; omega,q2⟩,by simp only; omega⟩
 | false =>
  refine wj (stop c i J) ?_
  rintro _ rfl
  exact⟨b0,b1⟩
instance (f:Form):Sp (sK f) (FW KK f) (λr=>r=false->FW 8200 f):=⟨λh=>by
 have kk:KK=2000000:=rfl
 have lo:Tm = -1000000000:=rfl
 obtain⟨⟨n1,f1⟩,⟨n2,f2⟩,⟨n3,f3⟩,⟨n4,f4⟩,⟨n5,f5⟩,n6,f6⟩:=h
 unfold sK
 simp(disch:=omega) only[qv]
 generalize hS:(f.1.length:Int)+f.2.1.length+f.2.2.1.length+f.2.2.2.1.length+f.2.2.2.2.1.length+f.2.2.2.2.2.1.length=S
 refine xl (wj (L6 f.2.1 (zb qg) n2 _ ⟨O,O⟩ (λc i i0 i1 c0 c1 hm => ?_) λc i J => ?_) λc1 h1 => ?_)
 ·have m:=f2 _ hm
  have r1:=(SQ (a:=(nth f.2.1 i (zb qg)).2.1)).1
  have r2:=(SQ (a:=(nth f.2.1 i (zb qg)).2.1)).2
  have m1:=m.1
  have m2:=m.2.2
  unfold ry
  dsimp only
  simp(disch:=omega) only[qv]
  exact uz (by simp[i1,c0]) (qt ⟨i0,i1⟩ (qt ⟨i0,i1⟩ (qt ⟨i0,i1⟩ (zi ⟨_,rfl,O,O⟩))))
 ·exact wC J (zi rfl)
 refine xl (wj (L6 f.1 (zb qs) n1 c1 ⟨h1.2,O⟩ (λc i i0 i1 c0 c1 hm => ?_) λc i J => ?_) λc2 M => ?_)
 ·have m:=f1 _ hm
  unfold rA
  dsimp only
  simp(disch:=omega) only[qv]
  exact uz (by simp[i1,c0]) (qt ⟨i0,i1⟩ (zi ⟨_,rfl,O,O⟩))
 ·exact wC J (zi rfl)
 refine xl (wj (L6 f.2.2.1 (zb xp) n3 c2 ⟨M.2,O⟩ (λc i i0 i1 c0 c1 hm => ?_) λc i J => ?_) λc3 h3 => ?_)
 ·have m:=f3 _ hm
  have m1:=m.1
  have m2:=m.2
  unfold rB
  dsimp only
  simp(disch:=omega) only[qv]
  exact uz (by simp[i1,c0]) (qt ⟨i0,i1⟩ (qt ⟨i0,i1⟩ (zi ⟨_,rfl,O,O⟩)))
 ·exact wC J (zi rfl)
 refine xl (wj (L6 f.2.2.2.1 (zb qw) n4 c3 ⟨h3.2,O⟩ (λc i i0 i1 c0 c1 hm => ?_) λc i J => ?_) λc4 h4 => ?_)
 ·have m:=f4 _ hm
  unfold rC
  dsimp only
  simp(disch:=omega) only[qv]
  exact uz (by simp[i1,c0]) (qt ⟨i0,i1⟩ (zi ⟨_,rfl,O,O⟩))
 ·exact wC J (zi rfl)
 refine xl (wj (L6 f.2.2.2.2.1 (zb xm) n5 c4 ⟨h4.2,O⟩ (λc i i0 i1 c0 c1 hm => ?_) λc i J => ?_) λc5 h5 => ?_)
 ·obtain⟨m1,m2,m3,m4⟩:=f5 _ hm
  unfold rD
  dsimp only
  simp(disch:=omega) only[qv]
  refine uz (by simp[i1,c0]) (qt ⟨i0,i1⟩ (qt ⟨i0,i1⟩ (qt ⟨i0,i1⟩ (qt ⟨i0,i1⟩ (za ⟨m3,O,O⟩ λx N=>za ⟨m4,O,O⟩ λy hy=>zi ⟨_,rfl,O,O⟩)))))
 ·exact wC J (zi rfl)
 refine xl (wj (L6 f.2.2.2.2.2.1 (zb xj) n6 c5 ⟨h5.2,O⟩ (λc i i0 i1 c0 c1 hm => ?_) λc i J => ?_) λc6 h6=>zi λe => ?_)
 ·obtain⟨m1,m3,m4⟩:=f6 _ hm
  unfold rE
  dsimp only
  simp(disch:=omega) only[qv]
  refine uz (by simp[i1,c0]) (qt ⟨i0,i1⟩ (qt ⟨i0,i1⟩ (qt ⟨i0,i1⟩ (za ⟨m3,O,O⟩ λx N=>za ⟨m4,O,O⟩ λy hy=>zi ⟨_,rfl,O,O⟩))))
 ·exact wC J (zi rfl)
 have e:=gm e
 exact⟨⟨O,f1⟩,⟨O,f2⟩,⟨O,f3⟩,⟨O,f4⟩,⟨O,f5⟩,O,f6⟩⟩
def okL(l:List Op)(n:Int):Prop:=∀ i:Int,0<=i->i<l.length->i<n->(nth l i (zb cq)).2.2.1.2.1.length<=3/\(nth l i (zb cq)).2.2.1.2.2.1.length<=3
instance (l:List Op):Sp (ZN l) (l.length<=KK) (λr=>r=false->okL l 25):=⟨λh=>by
 have kk:KK=2000000:=rfl
 unfold ZN Ww
 refine xl (wj (P:=λz:Unit⊕Bool=>z.elim (λ_=>okL l 25) λb=>b=true) ?_ λz hz => ?_)
 ·refine vS (σ:=Int) (λi=>0<=i/\i<=l.length/\okL l i) (λi=>((l.length:Int)-i).toNat) ⟨O,O,λi _ _ _=>O⟩ λi ⟨i0,i1,hi⟩ => ?_
  unfold tw
  dsimp only
  refine zg (λJ => ?_) λJ=>zi λj j0 j1 j2=>hi j j0 j1 ?_
  ·have J:=zF.1 J
   have d1:i<(l.length:Int):=uA J.1
   have hw:qo (i+1)=i+1:=qv (O) (O)
   refine zj ⟨⟨i0,d1⟩,λ_=>⟨⟨i0,d1⟩,λ_=>⟨i0,d1⟩⟩⟩ (zg (λ_=>zi rfl) λe=>zi ?_)
   rw[hw]
   simp only[Bool.or_eq_false_iff]at e
   have e1:=gm e.2.1
   have e2:=gm e.2.2
   refine⟨⟨O,O,λj j0 j1 j2 => ?_⟩,O⟩
   by_cases q:j=i
   ·subst q; exact⟨O,O⟩
   ·exact hi j j0 j1 (O)
  ·simp only[Bool.and_eq_false_iff]at J
   rcases J with J | J
   ·have:=gm J; omega
   ·have:=gm J; omega
 ·rcases z with z | z
  ·exact zi λ_=>hz
  ·have hz:z=true:=hz
   subst hz
   exact zi nofun⟩
open T PL
instance (f:Form):Sp (gI f) (FW 8200 f) (λr=>r.elim (λz=>z.2.1=0/\Ei z.2.2) λz=>z.2≠0):=⟨λh=>by
 unfold gI
 refine za h λ⟨s,k⟩ _=>zg (λe=>zi (by simpa using e)) λ_=>za h λa ha=>za ha λ⟨l,b,i,d,c,e,g,j⟩ hr=>zg (λq => ?_) λq => ?_
 ·have I:b.length<=1:=hr.2
  exact zj (O) (zj ⟨xn,by show(0:Int)<((b.length+1:Nat):Int); omega⟩ (zj ⟨rfl,by rw[UT]; show 0+0<_; omega⟩ (zi (by simpa using q))))
 ·have hD:Dx a (d,c,l.1,e,g,j,()):=hr.1 (by simpa using q)
  rw[cJ,cJ,cJ,cJ,cJ]
  exact z8 (z8 (z8 (z8 (z8 (za ⟨ha.1,xn,xn⟩ λm hm=>zi ⟨rfl,hD,⟨B _,nofun,nofun⟩,hm⟩)))))⟩
instance (s:zx):Sp (pW s) (s.length<=1000000000) (λr=>r.length<=2000000000):=⟨λh=>by
 unfold pW
 refine za ⟨O,O⟩ λa ha=>vk (by show a.length+1<=_; omega) (vk (by rw[yD]; show a.length+1+s.length<=_; omega) (zi (by rw[yD,yD]; show a.length+1+s.length<=_; omega)))⟩
instance (w:zx) (l:List zx):Sp (tR w l) (w.length<=10/\l.length<=32/\sL l) (λr=>r.length<=100000000000):=⟨λ⟨h,R,hs⟩=>by
 unfold tR VT
 refine vk (by show w.length+1<=_; omega) (za ⟨O,O⟩ λb I=>vk (by rw[yD]; show w.length+1+b.length<=_; omega) (vk (by rw[yD,yD]; show w.length+1+b.length+1<=_; omega) (xl (wj (P:=λr=>r.length<=100000000000) ?_ λr hr=>zi hr))))
 refine vS (λz:zx×Int=>0<=z.2/\z.2<=l.length/\(z.1.length:Int)<=100+2000000000*z.2) (λz=>((l.length:Int)-z.2).toNat) ⟨X _,by show(0:Int)<=_; omega,by show((cat (cat (cat w [32]) b) [10]).length:Int)<=100+2000000000*0; rw[yD,yD,yD]; show((w.length+1+b.length+1:Nat):Int)<=_; omega⟩ ?_
 rintro⟨s,i⟩ ⟨i0,i1,hs2⟩
 dsimp only at i0 i1 hs2
 unfold Zx
 refine zg (λJ => ?_) λJ=>zi (by show s.length<=_; omega)
 have J:=uA J
 have hw:qo (i+1)=i+1:=qv (O) (O)
 refine qt ⟨i0,J⟩ (za (hs _ (xx i0 J)) λc hc=>vk (O) (zi ?_))
 rw[hw]
 exact⟨⟨by show 0<=i+1; omega,by show i+1<=_; omega,by show((cat s c).length:Int)<=_; rw[yD]; show((s.length+c.length:Nat):Int)<=100+2000000000*(i+1); omega⟩,by simp only; omega⟩⟩
instance (e:zn):Sp (jT e) (Ei e) (λ_=>True):=⟨λ⟨hD,⟨h1,M,h3⟩,p0,p1⟩=>by
 unfold jT WV
 refine wC rfl (za hD.1 λb I=>xl (za (E I hD.len) λx N=>za ⟨xn,by show e.2.2.1.1.length<=32; omega,M⟩ λc hc=>vk (O) (za ⟨xn,by show e.2.2.1.2.1.length<=32; omega,h3⟩ λd J => ?_)))
 dsimp only
 refine vk (by rw[yD]; omega) (vk (by rw[yD,yD]; show _+5<=_; omega) (za ⟨p0,zG p1 (xn)⟩ λy hy=>vk ?_ (vk ?_ (za trivial λz hz=>vk ?_ (vk ?_ (zi (zi trivial)))))))
 all_goals
  simp only[yD,List.length_cons,List.length_nil]at *
  omega⟩
open T PL
theorem ze2{l:List Op}{n:Int}(h:okL l n)(hr:∀ o∈l,rg o.2.2.1){i:Int}(i0:0<=i)(i1:i<l.length)(i2:i<n):Ov (nth l i (zb cq)):=by
 have:=h i i0 i1 i2
 exact⟨hr _ (xx i0 i1),by unfold rl; omega⟩
theorem z1g(hk:kA.run=some true):(T.bind kA λh=>T.ret h).wp λr=>r=true:=xl (kY hk (zi rfl))
noncomputable def Hh (l:List Op) (e:zn):Nat->zn
 | 0=>e
 | k+1=>match(vJ (nth l (k:Int) (zb cq)) (Hh l e k)).run with | some r=>r.2 | none=>e
noncomputable def Mw (l:List Op) (e:zn) (k:Nat):Answer:=match(vJ (nth l (k:Int) (zb cq)) (Hh l e k)).run with | some r=>r.1 | none=>zb xv
theorem zb5{l:List Op}{e:zn}{k:Nat}(h:Ei (Hh l e k))(hv:Ov (nth l (k:Int) (zb cq))):(vJ (nth l (k:Int) (zb cq)) (Hh l e k)).run=some (Mw l e k,Hh l e (k+1))/\An (Hh l e k) (Mw l e k,Hh l e (k+1))/\Kn (nth l (k:Int) (zb cq)).1 (Hh l e k) (Mw l e k,Hh l e (k+1)):=by
 obtain⟨r,h1,M⟩:=T.eY.1 (Sp.sp (t:=vJ (nth l (k:Int) (zb cq)) (Hh l e k)) ⟨h,hv⟩)
 have ha:Mw l e k=r.1:=by unfold Mw; rw[h1]
 have hs:Hh l e (k+1)=r.2:=by simp only[Hh,h1]
 rw[ha,hs]
 exact⟨h1,M⟩
theorem z52{l:List Op}{e:zn}(he:Ei e)(hv:∀ i:Int,0<=i->i<l.length->Ov (nth l i (zb cq))):∀ k:Nat,k<=l.length->Ei (Hh l e k)
 | 0,_=>he
 | k+1,h=>(zb5 (z52 he hv k (O)) (hv k (O) (O))).2.1.1
theorem zd8(l:List Op)(e:zn)(R:l.length<=1000)(he:Ei e)(hv:∀ i:Int,0<=i->i<l.length->Ov (nth l i (zb cq))):(jy l e).wp λr=>r=(Hh l e l.length,(zE l.length).map (Mw l e)):=by
 unfold jy ig
 refine zj cu0 (zj rfl (xl (wj (P:=λz=>z=(Hh l e l.length,(zE l.length).map (Mw l e))) ?_ ?_)))
 ·refine vS (λz:Int×zn×List Answer=>∃ k:Nat,z=((k:Int),Hh l e k,(zE k).map (Mw l e))/\k<=l.length) (λz:Int×zn×List Answer=>((l.length:Int)-z.1).toNat) ⟨0,rfl,B _⟩ ?_
  rintro _ ⟨k,rfl,hk⟩
  have hn:((zE k).map (Mw l e)).length=k:=qz
  unfold bV
  refine zg (λJ => ?_) λJ => ?_
  ·have J:=uA J
   have hw:qo ((k:Int)+1)=((k+1:Nat):Int):=qv (O) (O)
   refine qt ⟨O,J⟩ (xl (kY (zb5 (z52 he hv k hk) (hv k (O) J)).1 (vT (by rw[hn]; omega) (uo (UT _ _).symm (zi ?_)))))
   rw[hw]
   exact⟨⟨k+1,by rw[List.range_succ,List.map_append]; rfl,O⟩,by simp only; omega⟩
  ·have J:=gm J
   have e:k=l.length:=O
   subst e
   exact ze (z8 (zi rfl))
 ·rintro _ rfl
  exact ze (z8 (zi rfl))
theorem zda(a:Answer)(h:a.2.1.length<=70000000):(mI a a).wp λr=>r=true:=by
 unfold mI tZ
 refine wC (by simp[wG]) (xl (wj (P:=λz=>z=.inl ()) ?_ ?_))
 ·refine vS (σ:=Int) (λi=>0<=i/\i<=a.2.1.length) (λi=>((a.2.1.length:Int)-i).toNat) ⟨O,O⟩ λi hi => ?_
  unfold lZ
  refine zg (λJ => ?_) λJ=>zi rfl
  have J:=uA J
  have hw:qo (i+1)=i+1:=qv (O) (O)
  refine qt ⟨hi.1,J⟩ (qt ⟨hi.1,J⟩ (wC (by simp[wG]) (zi ?_)))
  rw[hw]; exact⟨⟨O,O⟩,O⟩
 ·rintro _ rfl
  exact zi rfl
theorem zd9(hk:kA.run=some true)(f:Form)(l:List Op)(hf:FW KK f)(R:l.length<=KK)(hr:∀ o∈l,rg o.2.2.1):(bC f l).run=some true:=by
 suffices h:(bC f l).wp (λr=>r=true) by
  obtain⟨a,h1,M⟩:=T.eY.1 h
  rw[h1,M]
 have K:=z1g hk
 unfold bC
 refine xl (wj (P:=λr=>r=false->FW 8200 f/\okL l 25/\l.length<=25) (za hf λc hc=>zg (λ_=>zi nofun) λe=>za R λd J=>zg (λ_=>zi nofun) λe2=>zi λq=>⟨hc e,J e2,by have:=gm q; omega⟩) λe he=>zg (λ_=>zi rfl) λe2 => ?_)
 obtain⟨hF,hO,hn⟩:=he e2
 have hv:∀ i:Int,0<=i->i<l.length->Ov (nth l i (zb cq)):=λi i0 i1=>ze2 hO hr i0 i1 (O)
 obtain⟨z,hz,hz2⟩:=T.eY.1 (Sp.sp (t:=gI f) hF)
 refine xl (kY hz ?_)
 rcases z with⟨m,n,g⟩ | ⟨p,k⟩
 ·obtain⟨h0,hE⟩:=hz2
  have h0:n=0:=h0
  have hE:Ei g:=hE
  subst h0
  refine xl (kY hz (wC rfl (wC rfl (xl (wj (zd8 l g (O) hE hv) ?_)))))
  rintro _ rfl
  have hc:((zE l.length).map (Mw l g)).length=l.length:=qz
  refine wC (by rw[hc]; simp) (ze (z8 (xl (wj (P:=λz=>z=.inl (Hh l g l.length,Hh l g l.length,(zE l.length).map (Mw l g))) ?_ ?_))))
  ·unfold oe
   refine vS (λz:Int×zn×zn×List Answer=>∃ k:Nat,z=((k:Int),Hh l g k,Hh l g l.length,(zE l.length).map (Mw l g))/\k<=l.length) (λz:Int×zn×zn×List Answer=>((l.length:Int)-z.1).toNat) ⟨0,rfl,B _⟩ ?_
   rintro _ ⟨k,rfl,hk⟩
   unfold ek
   refine zg (λJ => ?_) λJ => ?_
   ·have J:=uA J
    have hw:qo ((k:Int)+1)=((k+1:Nat):Int):=qv (O) (O)
    have hN:=zb5 (z52 hE hv k hk) (hv k (O) J)
    have ha:wh ((zE l.length).map (Mw l g)) (0+(Int.toNat (k:Int))) (zb xv)=Mw l g k:=by
     unfold wh
     rw[List.getD_eq_getElem?_getD,Int.toNat_natCast,Nat.zero_add,List.getElem?_map,List.getElem?_range (O)]
     rfl
    refine qt ⟨O,J⟩ (xl (kY hN.1 (qt ⟨O,by rw[hc]; exact J⟩ (zj ⟨rfl,by rw[hc]; omega⟩ (xl ?_)))))
    rw[ha]
    refine wj (zda _ hN.2.1.2.1) ?_
    rintro _ rfl
    refine wC rfl (ze (z8 (zi ?_)))
    rw[hw]
    exact⟨⟨k+1,rfl,O⟩,by simp only; omega⟩
   ·have J:=gm J
    have e:k=l.length:=O
    subst e
    exact z8 (zi rfl)
  ·rintro _ rfl
   obtain⟨s,hs,_⟩:=T.eY.1 (Sp.sp (t:=jT (Hh l g l.length)) (z52 hE hv l.length (V _)))
   exact xl (kY hs (xl (kY hs (uz (by simp[wG]) K))))
 ·have hz2:k≠0:=hz2
  exact xl (kY hz (wC (qz) (uz (by simpa using hz2) K)))
theorem z1k(x:Yb [qy,.sl cq])(hw:wfL [qy,.sl cq] x)(I:bkL [qy,.sl cq] x<=1048576):FW KK x.1/\List.length x.2.1<=KK/\∀ o∈x.2.1,rg o.2.2.1:=by
 have kk:KK=2000000:=rfl
 have e:bkL [qy,.sl cq] x=bk qy x.1+(bk (.sl cq) x.2.1+0):=rfl
 have:=bl (τ:=cq) x.2.1
 exact⟨zaz _ hw.1 (O),O,λo ho=>rg_of (hw.2.1 o ho).2.2.1⟩
instance (i:Int) (n:Nat):Decidable (xe i n):=inferInstanceAs (Decidable (_/\_))
instance (a b c d:Nat):Decidable (uO a b c d):=inferInstanceAs (Decidable (_/\_))
instance (a b c d:Nat):Decidable (zw a b c d):=inferInstanceAs (Decidable (_/\_/\_))
instance (a b:Int) (c:Nat):Decidable (jA a b c):=inferInstanceAs (Decidable (_/\_/\_))
instance (a b c:Int) (d:Nat):Decidable (zl3 a b c d):=inferInstanceAs (Decidable (_/\_/\_/\_))
instance (a b:Int) (c:Nat):Decidable (eF a b c):=inferInstanceAs (Decidable (_/\_/\_/\_))
instance (a b c d e f g:Nat):Decidable (vV a b c d e f g):=inferInstanceAs (Decidable (_/\_/\_/\_))
instance (a b c d e:Nat):Decidable (QM a b c d e):=inferInstanceAs (Decidable (_/\_))
instance (n:Int):Decidable (wfI n):=inferInstanceAs (Decidable (_=true))
instance (y:Bool) (n:Int) (l:List Int):Decidable (z2i y n l):=inferInstanceAs (Decidable (_/\_/\_))
noncomputable def nx {σ ρ:Type} (r:σ->T (σ⊕ρ)):σ⊕ρ->Option ρ
 | .inl s=>(T.loop r s).run
 | .inr y=>some y
theorem z9V{σ ρ:Type}{r:σ->T (σ⊕ρ)}{s:σ}{z:σ⊕ρ}{x:ρ}(h:(r s).run=some z)(k:nx r z=some x):(T.loop r s).run=some x:=by
 cases z with
 | inl s'=>rw[XU h]; exact k
 | inr y=>rw[pg h]; exact k
theorem nxL{σ ρ:Type}{r:σ->T (σ⊕ρ)}{s:σ}{x:ρ}(k:(T.loop r s).run=some x):nx r (.inl s)=some x:=k
theorem nxR{σ ρ:Type}{r:σ->T (σ⊕ρ)}{y:ρ}:nx r (.inr y)=some y:=rfl
theorem z9h{α β:Type}{t:T α}{f:α->T β}{a:α}{x:β}(h:t.run=some a)(k:(f a).run=some x):(t.bind f).run=some x:=(zu h f).trans k
theorem zgL{α:Type}{b:Bool}{t e:T α}{x:α}(h:b=true)(k:t.run=some x):(T.ite b t e).run=some x:=by subst h; exact k
theorem zgK{α:Type}{b:Bool}{t e:T α}{x:α}(h:b=false)(k:e.run=some x):(T.ite b t e).run=some x:=by subst h; exact k
theorem zh1{α:Type}{p:Prop}{t:T α}{x:α}(h:p)(k:t.run=some x):(T.W p t).run=some x:=(xi h t).trans k
theorem elL{α β γ:Type}{f:α->T γ}{g:β->T γ}{a:α}{x:γ}(h:(f a).run=some x):(Sum.elim f g (.inl a)).run=some x:=h
theorem elR{α β γ:Type}{f:α->T γ}{g:β->T γ}{a:β}{x:γ}(h:(g a).run=some x):(Sum.elim f g (.inr a)).run=some x:=h
theorem zaX{a:zx}(h:(decide (a.length<4294967281)&&a.all λb=>decide (b.toNat<128))=true):(strings_makeASCIISet a).run=some (lG a,true):=by
 simp only[Bool.and_eq_true,decide_eq_true_eq,List.all_eq_true]at h
 unfold strings_makeASCIISet
 rw[xi ⟨h.1,λj b I=>h.2 b (zI I)⟩,wa]
theorem evd{α:Type}{t:T α}{x y:α}(h:t.run=some x)(k:x=y):t.run=some y:=by rw[h,k]
theorem zaZ{e:Type}{a:List e}{n:Nat}(h:vV 0 0 0 0 0 a.length n):(T.W (a=[]->∀ r,T.leads (.W (vV 0 0 0 0 0 a.length n)<|.W (0+a.length=0+a.length)<|.ret (zL 0 (zM (0+(0+a.length)) a)):T _) r->T.leads (.ret ([]:List e):T _) r)<|.W (vV 0 0 0 0 0 a.length n)<|.W (0+a.length=0+a.length)<|.ret (zL 0 (zM (0+(0+a.length)) a)):T (List e)).run=some a:=by
 have e0:zL 0 (zM (0+(0+a.length)) a)=a:=qz
 rw[e0,xi (λe r h=>by rw[e]at h; exact h.2.2),xi h,xi rfl,wa]
theorem zb0{e:Type}{a:List e}{n:Nat}(h:vV 0 0 0 0 0 a.length n):(T.W (a=[]->∀ r,T.leads (.W (vV 0 0 0 0 0 a.length n)<|.W (zw (0+a.length) 0 (0+a.length) a.length)<|.W (0+a.length=a.length)<|.ret a:T _) r->T.leads (.W (zw 0 0 0 0)<|.W ((0:Nat)=0)<|.ret ([]:List e):T _) r)<|.W (vV 0 0 0 0 0 a.length n)<|oM (0+a.length) a.length<|.ret a:T (List e)).run=some a:=by
 have e0:0+a.length=a.length:=Nat.zero_add _
 rw[xi (λe r h=>by rw[e]at h; exact⟨⟨rfl,rfl,rfl⟩,rfl,h.2.2.2⟩),xi h]
 show(T.W _ (T.W _ _)).run=_
 rw[xi ⟨e0,rfl,e0⟩,xi e0,wa]
theorem zep(hx:Nat){σ ρ:Type}{b:(σ->T ρ)->σ->T ρ}{x:σ}{y:ρ}(h:∀ k,(Wq b (k+hx) x).run=some y):(T.fix b x).run=some y:=by
 rw[yA,lX]
 exact⟨hx,λm hm=>T.yA.1 (by have:=h (m-hx); rwa [Nat.sub_add_cancel hm]at this)⟩
theorem zm1{σ ρ:Type}{b:(σ->T ρ)->σ->T ρ}{m:Nat}{x:σ}{y:ρ}(h:(b (Wq b m) x).run=some y):(Wq b (m+1) x).run=some y:=h
set_option maxRecDepth 100000 in
set_option maxHeartbeats 20000000 in
theorem z6l:kA.run=some true:=by
 unfold kA
 apply evd
 ·repeat first
    | with_reducible exact wa _
    | with_reducible exact nxR
    | with_reducible apply nxL
    | with_reducible apply z9h
    | with_reducible apply z9V
    | (with_reducible apply zep 6; intro k)
    | with_reducible apply zm1
    | with_reducible apply elL
    | with_reducible apply elR
    | (with_reducible apply zh1; · first | decide +kernel | (intro e r h; rw[e]at h; simpa[T.leads]using h))
    | with_reducible apply zgL (by decide +kernel)
    | with_reducible apply zgK (by decide +kernel)
    | with_reducible exact zaX (by decide +kernel)
    | dsimp only
    | exact zaZ (by decide +kernel)
    | exact zb0 (by decide +kernel)
    | apply z9h
    | (apply zh1; · first | decide +kernel | (intro e r h; rw[e]at h; simpa[T.leads]using h))
    | apply zgL (by decide +kernel)
    | apply zgK (by decide +kernel)
    | apply z9V
    | (apply zep 6; intro k)
    | exact wa _
 ·kernel_rfl
open T PL
theorem X8(x:Yb [qy,.sl cq])(hw:wfL [qy,.sl cq] x)(I:bkL [qy,.sl cq] x<=1048576):(bC (SZ [qy,.sl cq] x).1 (SZ [qy,.sl cq] x).2).run=some true:=zd9 z6l x.1 x.2.1 (z1k x hw I).1 (z1k x hw I).2.1 (z1k x hw I).2.2
end Go.AM.Lf
