/-
  Plain laws of the lifted program, part 2.
-/
import Derived.Test.YtbccccfmfeihfaaGreatDoorLf1
import Derived.Test.YtbccccfmfeihfaaGreatDoorAmA
import Derived.Test.YtbccccfmfeihfaaGreatDoorAmD
import Derived.KernelRfl
import Derived.Test.YtbccccfmfeihfaaGreatDoorQ0
import Derived.Test.YtbccccfmfeihfaaGreatDoorQ1
set_option linter.unusedVariables false
open Nat renaming le_trans -> zA, zero_le -> M, le_refl -> U, pow_le_pow_right -> zK, pow_succ -> zL, le_of_eq -> zN
open Bool renaming and_eq_true_iff -> Y
open Int renaming le_refl -> zE, eq_ofNat_of_zero_le -> zF, toNat_natCast -> zG, lt_of_le_of_lt -> zM
open List renaming getD_eq_getElem?_getD -> zH, isEmpty_iff -> zI, eq_nil_of_length_eq_zero -> zJ, sizeOf_lt_of_mem -> zO, mem_of_getElem? -> zP, drop -> zQ, range -> zS, take -> zU
open SizeOf renaming sizeOf -> zR
open Sum renaming elim -> zT
open Go.AM.T (Jz V8 W8 WE gD je lC mj pI qk sM vG vI vJ vP vS vt vx wU wg xe xj xl xv yG z8 za zc zd zg zh zx)
namespace Go.AM.Lf
open T PL
def zn0{α:Type}(d0:α)(e:α->T q9)(d:List α)(f:Int):(q9×Int)->T ((q9×Int)⊕(q9))
 | (c,a) =>
  .ite (decide (a<f))
   (oI a d <|
    T.bind (e (nth d a d0)) λb =>
    oK ([32]:q9) b <|
    oK c (cat ([32]:q9) b) <|
    .ret (.inl ((cat c (cat ([32]:q9) b)),(qj (a+(1:Int))))))
   (.ret (.inr c))
theorem yJ(a b:q9):(cat a b).length=a.length+b.length:=List.length_append
theorem zax{α:Type}(d0:α)(K:Nat)(e:α->T q9)(l:List α)(c:q9)(he:∀ x∈l,(e x).wp λr=>r.length<=K)(R:c.length+l.length*(K+1)<=1000000000000000)(hn:l.length<=1000000000) :
  (T.bind (T.loop (zn0 d0 e l (l.length:Int)) (c,(0:Int))) λa=>oK a ([10]:q9) (.ret (cat a ([10]:q9)))).wp λr=>r.length<=c.length+l.length*(K+1)+1:=by
 refine xe (xv (P:=λz=>z.length<=c.length+l.length*(K+1)) ?_ λz hz=>vt (by show z.length+1<=_; omega) (zd (by rw[yJ]; show z.length+1<=_; omega)))
 refine vx (σ:=q9×Int) (λz=>∃ k:Nat,z.2=(k:Int)/\k<=l.length/\z.1.length<=c.length+k*(K+1)) (λz=>((l.length:Int)-z.2).toNat) ⟨0,rfl,M _,by show c.length<=_; omega⟩ ?_
 rintro⟨s,_⟩ ⟨k,rfl,hk,hs⟩
 unfold zn0
 refine zg (λJ => ?_) λJ=>zd ?_
 ·have J:=uf J
  have hw:qj ((k:Int)+1)=k+1:=qo (Z) (Z)
  have h1:(k+1)*(K+1)=k*(K+1)+(K+1):=Nat.succ_mul ..
  have X:(k+1)*(K+1)<=l.length*(K+1):=Nat.mul_le_mul_right _ (Z)
  have hs:s.length<=c.length+k*(K+1):=hs
  refine qk ⟨Z,J⟩ (xe (xv (he _ (wa (Z) J)) λb I=>vt (by show 1+b.length<=_; omega) (vt (by rw[yJ]; show s.length+(1+b.length)<=_; omega) (zd ?_))))
  rw[hw]
  exact⟨⟨k+1,rfl,Z,by show(cat s (cat [32] b)).length<=_; rw[yJ,yJ]; show s.length+(1+b.length)<=_; omega⟩,by simp only; omega⟩
 ·have J:=yT J
  have e:k=l.length:=Z
  subst e
  exact hs
instance (a:Bool):Sp (fB a) True (λr=>r.length<=1):=⟨λ_=>by unfold fB; exact zg (λ_=>zd (U _)) λ_=>zd (U _)⟩
instance (a:Int):Sp (mc a) (-1<=a/\a<1000000000000000000) (λr=>r.length<=18):=⟨λh=>by
 unfold mc
 exact zg (λ_=>zd (by show 1<=18; decide)) λe=>z8 ⟨by have:=yT e; omega,h.2⟩ λb I=>zd I⟩
instance (p:qh):Sp (me p) (Pn p) (λr=>r.length<=68051):=⟨λh=>by
 have X:rl p.2.2.1<=1700:=h.2
 unfold me
 exact zg (λ_=>zd (by show 1<=68051; decide)) λ_=>zg (λ_=>z8 ⟨h.1,Z⟩ λb I=>vt (by show b.length+1<=_; omega) (zd (by rw[yJ]; show b.length+1<=_; omega))) λ_=>z8 ⟨h.1,Z⟩ λb I=>zd (by show b.length<=_; omega)⟩
instance (l:List Bool) (c:q9):Sp (ir c l λa=>fB a) (l.length<=1000000000/\c.length<=10) (λr=>r.length<=c.length+l.length*2+1):=⟨λh =>
 zax (zb .bool) 1 _ l c (λ_ _=>Sp.sp trivial) (Z) h.1⟩
instance (l:List Int) (c:q9):Sp (tQ c l λa=>mc a) ((l.length<=1000000000/\ou l)/\c.length<=10) (λr=>r.length<=c.length+l.length*19+1):=⟨λh =>
 zax (zb (.int .i64)) 18 _ l c (λx N=>Sp.sp (h.1.2 x N)) (Z) h.1.1⟩
instance (l:List Lf.Rat) (c:q9):Sp (mP c l λa=>gE a) (rs l/\c.length<=10) (λr=>r.length<=c.length+l.length*68051+1):=⟨λh =>
 zax (zb zm) 68050 _ l c (λx N=>vI (s:=inferInstance) ⟨(h.1.2 x N).1,by have:=(h.1.2 x N).2; omega⟩ λr hr=>by have:=(h.1.2 x N).2; omega) (by have:=h.1.1; omega) h.1.1⟩
instance (l:List qh) (c:q9):Sp (iu c l λa=>me a) (Ps l/\c.length<=10) (λr=>r.length<=c.length+l.length*68052+1):=⟨λh =>
 zax (zb zk) 68051 _ l c (λx N=>Sp.sp (h.1.2 x N)) (by have:=h.1.1; omega) h.1.1⟩
instance (d:zt):Sp (fA d) (Dw d) (λr=>r.length<=68052*(d.1.length+d.2.2.1.length+d.2.2.2.2.1.length)+19*(d.2.1.length+d.2.2.2.1.length+d.2.2.2.2.2.1.length)+100):=⟨λ⟨h1,X,h3,h4,h5,h6,h7⟩=>by
 have k1:=h1.1
 have k3:=h3.1
 have k5:=h5.1
 unfold fA
 refine z8 ⟨h1,xo⟩ λa ha=>z8 ⟨X,xo⟩ λb I=>vt ?_ (z8 ⟨h3,xo⟩ λc hc=>vt ?_ (z8 ⟨⟨h4,h7⟩,xo⟩ λe he=>vt ?_ (z8 ⟨h5,xo⟩ λg hg=>vt ?_ (z8 ⟨h6,xo⟩ λk hk=>vt ?_ (vt ?_ (zd ?_))))))
 all_goals
  simp only[yJ,List.length_cons,List.length_nil]at *
  omega⟩
theorem Dx.len{f:Form}{d:zt}(h:Dx f d):68052*(d.1.length+d.2.2.1.length+d.2.2.2.2.1.length)+19*(d.2.1.length+d.2.2.2.1.length+d.2.2.2.2.2.1.length)+100<=1000000000:=by
 obtain⟨-,hV,f1,f2,l1,l2,l3,l4,l5,l6⟩:=h
 have n1:=hV.1.1.1
 have n2:=hV.1.2.1.1
 omega
open T PL
theorem Kl{a b:q9}:wP a b=decide (a=b):=by unfold wP; rw[Bool.eq_iff_iff]; simp
def isD(b:UInt8):Bool:=decide (48<=b.toNat/\b.toNat<=57)
def ic(s:q9):Bool:=s.all isD
theorem O3{b:UInt8}:isD b=true↔48<=b.toNat/\b.toNat<=57:=by unfold isD; simp
theorem Fi(s t:q9):ic (s++t)=(ic s&&ic t):=by unfold ic; rw[List.all_append]
theorem Wv(b:UInt8)(t:q9):ic (b::t)=(isD b&&ic t):=rfl
theorem zcL{s:q9}(h:ic s=true):dgV s<10 ^ s.length:=by
 have key:∀ (s:q9) (n k:Nat),ic s=true->n<10 ^ k->s.foldl (λn b=>n*10+(b.toNat-48)) n<10 ^ (k+s.length):=by
  intro s
  induction s with
  | nil=>simp
  | cons b s ih =>
   intro n k J hn
   simp only[ic,List.all_cons,Bool.and_eq_true]at J
   have I:=O3.1 J.1
   have:=ih (n*10+(b.toNat-48)) (k+1) J.2 (by rw[zL]; omega)
   rw[List.foldl_cons,List.length_cons]
   rwa [show k+(s.length+1)=k+1+s.length by omega]
 have:=key s 0 0 h (qp)
 simpa[dgV]using this
theorem YT(f:Nat->Bool):∀ (n k i:Nat),i<n->Vd .bool (ng .bool n) (SG (e:=.bool) f n k) i=f (k+i)
 | 0,_,_,h=>Z
 | n+1,k,0,_=>by
  rfl
 | n+1,k,i+1,h=>by
  show Vd .bool (ng .bool n) (SG (e:=.bool) f n (k+1)) i=_
  rw[YT f n (k+1) i (Z)]
  grind
abbrev dS:q9:=[48,49,50,51,52,53,54,55,56,57]
theorem z6V:∀ c:Fin 256,dS.contains (UInt8.ofNat c.val)=decide (48<=c.val/\c.val<=57):=by decide +kernel
theorem LF{s:q9}{k:Nat}(h:k<s.length):uC s (k:Int)=((s[k]).toNat:Int):=by
 unfold uC; simp[h]
theorem LN(b:UInt8)(s:q9):fW 1 (((b::s).length:Nat):Int) (b::s)=s:=by unfold fW; simp
theorem SQ(s:q9)(b:UInt8):fW 0 ((s.length:Nat):Int) (s++[b])=s:=by unfold fW; simp
theorem Uz(b:UInt8):(vn (lQ dS) (b.toNat:Int)).run=some (isD b):=by
 have I:b.toNat<256:=b.toNat_lt
 unfold vn
 rw[xj ⟨Z,Z⟩,wg]
 unfold lQ
 rw[zG,YT _ 256 0 _ I,Nat.zero_add]
 exact congrArg some (z6V ⟨b.toNat,I⟩)
theorem Bo(s:q9)(hs:s.length<=1000000000):∃ r,(jB s (lQ dS)).run=some r/\ic r=ic s/\(ic r=true->r=[])/\r.length<=s.length:=by
 have:=T.cJ (r:=uK (lQ dS)) (λt:q9=>ic t=ic s/\t.length<=s.length) (λt=>t.length) (λr:q9=>ic r=ic s/\(ic r=true->r=[])/\r.length<=s.length) (λt ht => ?_) (s:=s) ⟨rfl,U _⟩
 ·obtain⟨r,h1,X⟩:=this
  have h1:(jO (lQ dS) s).run=some r:=h1
  unfold jB
  rw[zx h1]
  exact⟨r,rfl,X⟩
 ·rcases List.eq_nil_or_concat t with rfl | ⟨l,b,rfl⟩
  ·right
   refine⟨[],?_,ht.1,λ_=>rfl,qp⟩
   rfl
  ·rw[List.concat_eq_append]at ht ⊢
   have R:(l++[b]).length=l.length+1:=qp
   have e1:qj (((l++[b]).length:Int)-1)=(l.length:Int):=by rw[R,qo (Z) (Z)]; omega
   have e2:uC (l++[b]) (l.length:Int)=(b.toNat:Int):=by rw[LF (qp)]; simp
   unfold uK
   rw[vP (decide_eq_true (qp)),e1,vS _ (Z) (wb),e2,zx (Uz b)]
   cases I:isD b with
   | false =>
    right
    refine⟨_,by rfl,ht.1,λh => ?_,ht.2⟩
    rw[Fi,Wv,I]at h; simp at h
   | true =>
    left
    refine⟨l,by rw[je (by rfl),W8 _ (Z) (Z) (wb),wg,SQ],⟨?_,Z⟩,Z⟩
    rw[<- ht.1,Fi,Wv,I]; simp[ic]
theorem Ef(s:q9)(hs:s.length<=1000000000):∃ r,(jS s (lQ dS)).run=some r/\ic r=ic s/\(ic r=true->r=[]):=by
 have:=T.cJ (r:=j5 (lQ dS)) (λt:q9=>ic t=ic s) (λt=>t.length) (λr:q9=>ic r=ic s/\(ic r=true->r=[])) (λt ht => ?_) (s:=s) rfl
 ·obtain⟨r,h1,X⟩:=this
  have h1:(kB (lQ dS) s).run=some r:=h1
  unfold jS
  rw[zx h1]
  exact⟨r,rfl,X⟩
 ·cases t with
  | nil =>
   right
   refine⟨[],?_,ht,λ_=>rfl⟩
   rfl
  | cons b l =>
   have e2:uC (b::l) 0=(b.toNat:Int):=rfl
   unfold j5
   rw[vP (decide_eq_true (qp)),vS _ (Z) (qp),e2,zx (Uz b)]
   cases I:isD b with
   | false =>
    right
    refine⟨_,by rfl,ht,λh => ?_⟩
    rw[Wv,I]at h; simp at h
   | true =>
    left
    refine⟨l,by rw[je (by rfl),W8 _ (Z) (wb) (Z),wg,LN],?_,qp⟩
    rw[<- ht,Wv,I]; rfl
theorem CV:∀ (j:Nat) b,dS[j]? = some b->b.toNat<128:=by
 intro j b h
 have:b∈dS:=zP h
 simp at this
 rcases this with rfl | rfl | rfl | rfl | rfl | rfl | rfl | rfl | rfl | rfl<;>decide
theorem Y8(s:q9)(hs:s.length<=1000000000)(hn:s≠[]):∃ r,(cz s dS).run=some r/\wP r []=ic s:=by
 obtain⟨r1,a1,a2,a3,a4⟩:=Bo s hs
 obtain⟨r,b1,b2,b3⟩:=Ef r1 (Z)
 refine⟨r,?_,?_⟩
 ·have hm:(strings_makeASCIISet dS).run=some (lQ dS,true):=by
   unfold strings_makeASCIISet
   rw[xj ⟨xo,CV⟩,wg]
  have e1:wP s []=false:=by rw[Kl]; simpa using hn
  unfold cz
  rw[je (by rw[e1]; rfl),xj (λh=>wb),je (by rfl),zx hm,Jz,zx a1,zx b1,wg]
 ·rw[Kl]
  rw[a2]at b2
  cases h:ic s with
  | true=>grind
  | false =>
   rw[h]at b2
   refine decide_eq_false λz => ?_
   subst z; cases b2
instance (b:Bool):Sp (uD b) True (λr=>r.elim (λ_=>b=true) λ_=>b=false):=⟨λ_=>by unfold uD; exact zg (λe=>zd (by simpa using e)) λe=>zd (by simpa using e)⟩
instance (a:q9):Sp (mL a) (a.length<=1000000000) (λr=>r.elim (λn=>0<=n/\n<1000000000000000000) λ_=>True):=⟨λh=>by
 unfold mL
 refine xe (xv (P:=λz:Unit⊕Unit=>z.elim (λ_=>a≠[]/\a.length<=18/\ic a=true) λ_=>True) (zg (λe=>zg (λe2 => ?_) λ_=>z8 trivial λz hz => ?_) λ_=>z8 trivial λz hz => ?_) λz hz => ?_)
 ·have e1:a≠[]:=by rw[Kl]at e; simpa using e
  obtain⟨r,h1,X⟩:=Y8 a h e1
  refine xe (gD h1 (z8 trivial λz hz => ?_))
  rcases z with z | z
  ·have e2:=uf e2
   exact zd ⟨e1,Z,X.symm.trans hz⟩
  ·exact zd trivial
 ·rcases z with z | z
  ·cases hz
  ·exact zd trivial
 ·rcases z with z | z
  ·cases hz
  ·exact zd trivial
 ·rcases z with z | z
  ·obtain⟨h1,X,h3⟩:=hz
   have h4:=zcL h3
   have h5:10 ^ a.length<=10 ^ 18:=zK (xo) X
   unfold strconv_Atoi
   refine xe (zc ⟨⟨h1,X⟩,λb I=>O3.1 (List.all_eq_true.1 h3 b I)⟩ (zd (z8 trivial λz hz => ?_)))
   rcases z with z | z
   ·exact zd ⟨by show(0:Int)<=(dgV a:Nat); omega,by show((dgV a:Nat):Int)<_; omega⟩
   ·exact zd trivial
  ·exact zd trivial⟩
open T PL
def zb1{α:Type}(k:Nat)(e:q9->T (α⊕Unit))(d:List q9)(f:Int):(Int×List α)->T ((Int×List α)⊕(List α⊕(Unit×List α)))
 | (b,a) =>
  .ite (decide (b<f))
   (oI b d <|
    T.bind (e (nth d b (zb .str))) <|
     zT (λc =>
      oA a k <|
      oM (a.length+(1:Nat)) (a++([c]:List α)).length <|
      .ret (.inl ((qj (b+(1:Int))),(a++([c]:List α)))))
     (λe =>
      V a <|
      .ret (.inr (.inr (e,a)))))
   (oC a <|
    V a <|
    .ret (.inr (.inl a)))
theorem NP{α:Type}(k:Nat)(hk:k<=64)(e:q9->T (α⊕Unit))(l:List q9)(P:α->Prop)(he:∀ s∈l,(e s).wp λr=>r.elim P λ_=>True)(hn:l.length<=1000000000) :
  (oZ (T.bind (T.loop (zb1 k e l (l.length:Int)) ((0:Int),([]:List α))) (zT (λa=>oC a (V a (.ret (.inl a)))) λz=>.ret (.inr z.1))):T (List α⊕Unit)).wp λr=>r.elim (λa=>a.length<=1000000000/\∀ x∈a,P x) λ_=>True:=by
 refine zc ⟨rfl,rfl,rfl⟩ (zc rfl (xe (xv (P:=λz:List α⊕(Unit×List α)=>z.elim (λa=>a.length<=1000000000/\∀ x∈a,P x) λ_=>True) ?_ λz hz => ?_)))
 ·refine vx (σ:=Int×List α) (λz=>0<=z.1/\z.1<=l.length/\(z.2.length:Int)=z.1/\∀ x∈z.2,P x) (λz=>((l.length:Int)-z.1).toNat) ⟨zE _,by show(0:Int)<=_; omega,rfl,nofun⟩ ?_
  rintro⟨i,a⟩ ⟨i0,i1,ha,hp⟩
  dsimp only at i0 i1 ha hp
  unfold zb1
  refine zg (λJ => ?_) λJ=>zh (za (zd ⟨Z,hp⟩))
  have J:=uf J
  have hw:qj (i+1)=i+1:=qo (Z) (Z)
  refine qk ⟨i0,J⟩ (xe (xv (he _ (wa i0 J)) λz hz => ?_))
  rcases z with c | c
  ·have hm:(a.length+1)*k<=(a.length+1)*64:=Nat.mul_le_mul_left _ hk
   refine vJ (Z) (vG (JN _ _).symm (zd ?_))
   rw[hw]
   exact⟨⟨by show 0<=i+1; omega,by show i+1<=_; omega,by show((a++[c]).length:Int)=i+1; rw[JN]; omega,ga hp hz⟩,by simp only; omega⟩
  ·exact za (zd trivial)
 ·rcases z with z | z
  ·exact zh (za (zd hz))
  ·exact zd trivial
def bL(l:List q9):Prop:=l.length<=1000000000/\∀ s∈l,s.length<=1000000000
instance (s:q9):Sp (dw s) True (λr=>r.elim (λa=>rg a/\rl a<=1700) λ_=>True):=⟨λ_=>by
 unfold dw
 refine z8 trivial λa ha=>z8 trivial λz _ => ?_
 rcases z with z | z
 ·exact zd ha
 ·exact zd trivial⟩
instance (s:q9):Sp (mM s) True (λr=>r.elim (λ_=>True) λ_=>True):=⟨λ_=>by
 unfold mM
 refine zg (λ_=>z8 trivial λz _ => ?_) λ_=>z8 trivial λz _ => ?_
 ·rcases z with z | z<;>exact zd trivial
 ·rcases z with z | z<;>exact zd trivial⟩
instance (s:q9):Sp (mN s) (s.length<=1000000000) (λr=>r.elim (λn => -1<=n/\n<1000000000000000000) λ_=>True):=⟨λh=>by
 unfold mN
 refine zg (λ_=>zd (by show(-1:Int) <= -1/\(-1:Int)<1000000000000000000; decide)) λ_=>z8 h λz hz => ?_
 rcases z with z | z
 ·exact zd ⟨by have:0<=z:=hz.1; show -1<=z; omega,hz.2⟩
 ·exact zd trivial⟩
instance (a b:q9):Sp (strings_CutSuffix a b) (a.length<=1000000000/\b.length<=1000000000) (λ_=>True):=⟨λ⟨h,k⟩=>by
 have hw:qj ((a.length:Int)-b.length)=a.length-b.length:=qo (Z) (Z)
 unfold strings_CutSuffix jZ ke
 rw[hw]
 refine xe (xe (zc (λe => ?_) (zd (zg (λ_=>zd (zd trivial)) λe=>zc ?_ (zd (zd trivial))))))
 ·have:=uf e
  exact⟨Z,Z,Z⟩
 ·have:(b.length:Int)<=a.length:=by
   by_cases q:(b.length:Int)<=a.length
   ·exact q
   ·rw[decide_eq_false q]at e; cases e
  exact⟨Z,Z,Z⟩⟩
instance (s:q9):Sp (mO s) (s.length<=1000000000) (λr=>r.elim Pn λ_=>True):=⟨λh=>by
 unfold mO
 refine zg (λ_=>z8 ⟨xo,xo⟩ λa ha=>zd ⟨ha.1,?_⟩) λ_=>z8 ⟨h,xo⟩ λx _=>z8 trivial λz hz => ?_
 ·have X:rl a<=2:=ha.2
  exact zA X (xo)
 ·rcases z with z | z
  ·exact zd hz
  ·exact zd trivial⟩
instance (b:List q9) (u:Unit):Sp (uT b u) (bL b) (λr=>r.elim rs λ_=>True):=⟨λh=>NP 56 (xo) _ b _ (λ_ _=>Sp.sp trivial) h.1⟩
instance (b:List q9) (u:Unit):Sp (uU b u) (bL b) (λr=>r.elim (λa=>a.length<=1000000000/\∀ x∈a,True) λ_=>True):=⟨λh=>NP 1 (xo) _ b (λ_=>True) (λ_ _=>Sp.sp trivial) h.1⟩
instance (b:List q9) (u:Unit):Sp (kZ b u) (bL b) (λr=>r.elim (λa=>a.length<=1000000000/\ou a) λ_=>True):=⟨λh=>NP 8 (xo) _ b _ (λs hs=>Sp.sp (h.2 s hs)) h.1⟩
instance (b:List q9) (u:Unit):Sp (jt b u) (bL b) (λr=>r.elim Ps λ_=>True):=⟨λh=>NP 64 (xo) _ b _ (λs hs=>Sp.sp (h.2 s hs)) h.1⟩
instance (a:gN):Sp (bn a) (a.1.length<=1000000000) (λr=>r.elim (λz=>z.1.length<=1000000000/\z.2.1.length<=1000000000/\z.1.length<1000000000+1) λ_=>True):=⟨λh=>by
 unfold bn
 refine z8 h λ⟨b,c,d⟩ hz=>z8 trivial λz _ => ?_
 have hz:b.length+c.length<=a.1.length:=hz
 rcases z with z | z
 ·exact zd ⟨by show b.length<=_; omega,by show c.length<=_; omega,by show b.length<_; omega⟩
 ·exact zd trivial⟩
instance (w:q9) (a:gN):Sp (wR w a) (a.1.length<=1000000000) (λr=>r.elim (λz=>bL z.1/\z.2.1.length<=1000000000) λ_=>True):=⟨λh=>by
 unfold wR
 refine z8 h λz hz => ?_
 rcases z with⟨c,b⟩ | z
 ·obtain⟨h1,X,-⟩:=hz
  have h1:c.length<=1000000000:=h1
  have X:b.1.length<=1000000000:=X
  have h3:=z4y 32 c
  have h4:(lF 32 c).length<=Z0 (lF 32 c)/\(lF 32 c=[]->Z0 (lF 32 c)=0):=by
   generalize lF 32 c=l
   refine⟨?_,λe=>by rw[e]; rfl⟩
   induction l with
   | nil=>exact M _
   | cons a l ih=>unfold Z0 at *; simp; omega
  have h5:1<=(lF 32 c).length:=by
   rcases Nat.eq_zero_or_pos (lF 32 c).length with e | e
   ·have:=h4.2 (zJ e); omega
   ·exact e
  unfold strings_Split
  refine xe (zc ⟨Z,rfl⟩ (zd (qk ⟨xo,by show(0:Int)<(lF 32 c).length; omega⟩ (z8 trivial λz _ => ?_))))
  rcases z with z | z
  ·refine zc ⟨xo,by show(1:Int)<=(lF 32 c).length; omega,zE _⟩ (zd ⟨⟨?_,λs hs => ?_⟩,X⟩)
   ·show(zQ _ (zU _ (lF 32 c))).length<=_
    rw[List.length_drop,List.length_take]
    show min _ _-1<=_
    omega
   ·exact zA (h3.2 s (List.mem_of_mem_take (List.mem_of_mem_drop hs))) h1
  ·exact zd trivial
 ·exact zd trivial⟩
theorem SP:zu 0 0 0 0:=⟨rfl,rfl,rfl⟩
instance (a:Int):Sp (ij a) True (λr=>r=a):=⟨λ_=>by unfold ij; exact wU rfl (zd rfl)⟩
instance (u:Unit) (a:Int):Sp (wH u a) True (λr=>r=2):=⟨λ_=>by unfold wH; exact xl rfl (wU rfl (zd rfl))⟩
theorem K2{p:Prop} (h:p:=by
 refine z8 trivial λ_ e => ?_
 subst e
 repeat' (with_reducible first | refine za ?_ | refine zh ?_ | refine zc SP ?_ | refine zc (Eq.refl 0) ?_)
 exact zd (nz (a:=2) (xo))):p:=h
abbrev R8(r:Unit×Int×List Lf.Rat×List Bool×List Lf.Rat×List Int×List qh×List Bool):zt:=(r.2.2.1,r.2.2.2.1,r.2.2.2.2.1,r.2.2.2.2.2.1,r.2.2.2.2.2.2.1,r.2.2.2.2.2.2.2,())
instance (s:q9):Sp (oT s) (s.length<=1000000000) (λr=>r.2.1=0->Dw (R8 r)):=⟨λhs=>by
 unfold oT
 refine z8 hs λz hz => ?_
 rcases z with⟨k,l⟩ | ⟨y,l⟩
 rotate_left
 ·exact K2
 refine z8 hz.1 λz h1 => ?_
 rcases z with a | z
 rotate_left
 ·exact K2
 have R:l.1.length<=1000000000:=hz.2
 clear hz
 refine z8 R λz hz => ?_
 rcases z with⟨k,l⟩ | ⟨y,l⟩
 rotate_left
 ·exact K2
 refine z8 hz.1 λz X => ?_
 rcases z with b | z
 rotate_left
 ·exact K2
 have R:l.1.length<=1000000000:=hz.2
 clear hz
 refine z8 R λz hz => ?_
 rcases z with⟨k,l⟩ | ⟨y,l⟩
 rotate_left
 ·exact K2
 refine z8 hz.1 λz h3 => ?_
 rcases z with c | z
 rotate_left
 ·exact K2
 have R:l.1.length<=1000000000:=hz.2
 clear hz
 refine z8 R λz hz => ?_
 rcases z with⟨k,l⟩ | ⟨y,l⟩
 rotate_left
 ·exact K2
 refine z8 hz.1 λz h4 => ?_
 rcases z with d | z
 rotate_left
 ·exact K2
 have R:l.1.length<=1000000000:=hz.2
 clear hz
 refine z8 R λz hz => ?_
 rcases z with⟨k,l⟩ | ⟨y,l⟩
 rotate_left
 ·exact K2
 refine z8 hz.1 λz h5 => ?_
 rcases z with e | z
 rotate_left
 ·exact K2
 have R:l.1.length<=1000000000:=hz.2
 clear hz
 refine z8 R λz hz => ?_
 rcases z with⟨k,l⟩ | ⟨y,l⟩
 rotate_left
 ·exact K2
 refine z8 hz.1 λz h6 => ?_
 rcases z with f | z
 rotate_left
 ·exact K2
 dsimp only[Sum.elim_inl]
 rw[bg,bg,bg,bg,bg,bg]
 have hD:Dw (a,b,c,d,e,f,()):=⟨h1,X.1,h3,h4.1,h5,h6.1,h4.2⟩
 refine z4R (z8 hD λv _=>z8 trivial λz _ => ?_)
 rcases z with z | z
 rotate_left
 ·exact K2
 refine z8 trivial λw _ => ?_
 repeat' (with_reducible first | refine za ?_ | refine zh ?_)
 exact zd λ_=>hD⟩
instance (f:Form) (s:q9):Sp (ta f s) (FW 8200 f/\s.length<=1000000000) (λr=>r.2=0->Dx f r.1):=⟨λ⟨hF,hs⟩=>by
 unfold ta
 refine z8 hs λ⟨l,g,a,b,c,d,e,h⟩ hz => ?_
 dsimp only
 rw[bg,bg,bg,bg,bg,bg]
 refine zg (λq=>zd (nz (by simpa using q))) λq=>z4R (z8 ⟨hF,hz (by simpa using q)⟩ λi hi=>zg (λ_=>zd (nz (a:=1) (xo))) λq2=>z4R (zd λ_=>hi (by simpa using q2)))⟩
open T PL
def vh(v:wu):Prop:=v.1.length<=20000/\v.2.1.length<=20000/\rs v.2.2.1
instance (f:Form) (l:List Lf.Rat):Sp (rB f l) (FV f/\rs l) (λr=>vh r):=⟨λh=>by
 obtain⟨h1,_⟩:=FV.fe h.1
 have X:l.length<=1000000000:=h.2.1
 unfold rB vh
 exact goe⟩
instance (d:q9) (a:wu) (g:List Lf.Rat):Sp (Ut d a g) (vh a/\rs g) (λr=>rg r.1/\rl r.1<=1700):=⟨λ⟨⟨h1,X,h3⟩,hg⟩=>by
 unfold Ut
 exact z8 (Z) λb I=>zg (λ_=>z8 hg λe he=>zd ⟨he.1,he.2.1⟩) λ_=>z8 (Z) λc hc=>zg (λ_=>zd ⟨W9.1,zA (zN W9.2) (xo)⟩) λ_=>z8 h3 λf hf=>zd ⟨hf.1,hf.2.1⟩⟩
instance (e:Expr) (v:wu) (l:List Lf.Rat):Sp (ZM e v l) (EK e/\vh v/\rs l) (λr=>rg r.1/\rl r.1<=440000):=⟨λh=>by
 obtain⟨⟨n,hn,he⟩,hv,R⟩:=h
 unfold ZM
 refine xv (P:=λr=>∀ n,EO n e->rg r.1/\rl r.1<=1710*n) ?_ λr hr=>by have:=hr n he; exact⟨this.1,Z⟩
 refine sM (x:=(e,v,l)) (λ(e,v,l)=>(∃ n,n<=256/\EO n e)/\vh v/\rs l) (λ(e,_)=>zR e) (λ(e,_) (r:Lf.Rat×Int)=>∀ n,EO n e->rg r.1/\rl r.1<=1710*n) ?_ ?_ ⟨⟨n,hn,he⟩,hv,R⟩
 ·intro g g' hg x
  unfold yg
  exact mono
 ·intro⟨e,v,l⟩ ⟨⟨n,hn,he⟩,hv,R⟩ g hg
  have z:rg (false,[],[],())/\rl (false,[],[],())<=0:=⟨W9.1,zN W9.2⟩
  have hq:∀ {n'},EO n' e->n'=n:=λh=>h.uniq he
  suffices (yg (λy0 y1 y2=>g (y0,y1,y2)) e v l).wp λr=>rg r.1/\rl r.1<=1710*n from xv this λr hr n' h=>by rw[hq h]; exact hr
  clear hq
  cases he with
  | num h1 X =>
   unfold yg
   simp only[Expr.kids,Expr.kind,Expr.num,Expr.name]
   exact wU rfl Fx
  | nam h1 =>
   unfold yg
   simp only[Expr.kids,Expr.kind,Expr.num,Expr.name]
   exact xl rfl (wU rfl Fx)
  | @neg m s i a h1 =>
   have ha:Sp (g (a,v,l)) True (λr=>rg r.1/\rl r.1<=1710*i):=⟨λ_=>xv (hg (a,v,l) ⟨⟨i,Z,h1⟩,hv,R⟩ (by simp<;>omega)) λr hr=>hr i h1⟩
   unfold yg
   simp only[Expr.kids,Expr.kind,Expr.num,Expr.name]
   clear hg
   refine xl rfl (xl rfl (qk ⟨Z,qp⟩ ?_))
   rw[show nth [a] 0 (zb .expr)=a from rfl]
   refine z8 trivial λr hr=>zg (λ_=>zd ?_) λ_=>wU rfl ?_
   ·grind
   ·exact Fx
  | @bin k m s i j a b h1 X h3 h4 =>
   have ha:Sp (g (a,v,l)) True (λr=>rg r.1/\rl r.1<=1710*i):=⟨λ_=>xv (hg (a,v,l) ⟨⟨i,Z,h3⟩,hv,R⟩ (by simp<;>omega)) λr hr=>hr i h3⟩
   have I:Sp (g (b,v,l)) True (λr=>rg r.1/\rl r.1<=1710*j):=⟨λ_=>xv (hg (b,v,l) ⟨⟨j,Z,h4⟩,hv,R⟩ (by simp<;>omega)) λr hr=>hr j h4⟩
   unfold yg
   simp only[Expr.kids,Expr.kind,Expr.num,Expr.name]
   clear hg
   refine xl (wb) (xl (wb) (qk ⟨Z,by simp<;>omega⟩ ?_))
   rw[show nth [a,b] 0 (zb .expr)=a from rfl,show nth [a,b] 1 (zb .expr)=b from rfl]
   refine z8 trivial λr hr=>zg (λ_=>zd ?_) λ_=>xl (wb) (qk ⟨Z,qp⟩ ?_)
   ·grind
   ·exact Fx⟩
instance (e:Expr) (v:wu) (l:List Lf.Rat):Sp (Z7 e v l) (EW KK e/\vh v/\rs l) (λr=>rg r.1/\rl r.1<=440000):=⟨λ⟨h1,X,h3⟩=>by
 unfold Z7
 exact z8 h1 λb I=>zg (λ_=>zd ⟨W9.1,zA (zN W9.2) (xo)⟩) λe=>z8 ⟨I (by simpa using e),X,h3⟩ λz hz=>zd hz⟩
instance (c:Check) (v:wu) (l:List Lf.Rat):Sp (pq c v l) (EW KK c.2.2.2.1/\EW KK c.2.2.2.2.1/\vh v/\rs l) (λ_=>True):=⟨λ⟨h1,X,h3⟩=>by
 unfold pq
 refine z8 ⟨h1,h3⟩ λx N=>z8 ⟨X,h3⟩ λy hy=>zg (λ_=>zd trivial) λ_=>z8 ⟨N.1,hy.1,?_⟩ λb _=>zg (λ_=>zd trivial) λ_=>zg (λ_=>zd trivial) λ_=>zd trivial
 have O0:=N.2
 have hy2:=hy.2
 omega⟩
open T PL
abbrev M3:=Int×wu×List q9
theorem ziW(f:Form)(d:zt)(i:Int)(x:List Bool)(p q:Int)(g:List Field)(e:wu)(b:List q9)(hg:g.length<=64)(I:b.length<=100000000) :
  (iY f d i x p q g (g.length:Int) (0,e,b)).wp λr=>∃ c:List q9,r=(e,c)/\c.length<=b.length+64:=by
 unfold iY
 refine vx (λz:M3=>∃ (k:Int) (c:List q9),z=(k,e,c)/\0<=k/\k<=g.length/\(c.length:Int)<=b.length+k) (λz:M3=>((g.length:Int)-z.1).toNat) ⟨0,b,rfl,xo,Z,Z⟩ ?_
 rintro _ ⟨k,c,rfl,k0,k1,hc⟩
 unfold l9
 refine zg (λJ => ?_) λJ=>zh (za (zd ⟨c,rfl,Z⟩))
 have J:=uf J
 have hw:qj (k+1)=k+1:=qo (Z) (Z)
 refine qk ⟨k0,J⟩ (zc (λ_ _ h=>⟨k0,by have:=yT h; omega⟩) (zg (λ_=>vJ (Z) (vG (JN _ _).symm (zd ?_))) λ_=>zh (za (zd ?_))))
 ·rw[hw]
  exact⟨⟨k+1,_,rfl,Z,Z,by rw[JN]; omega⟩,by simp only; omega⟩
 ·rw[hw]
  exact⟨⟨k+1,_,rfl,Z,Z,Z⟩,by simp only; omega⟩
theorem ziX(f:Form)(d:zt)(i:Int)(x:List Bool)(p q:Int)(g:List Check)(e:wu)(b:List q9)(hg:g.length<=8200/\∀ x∈g,EW KK x.2.2.2.1/\EW KK x.2.2.2.2.1)(hv:vh e/\rs d.2.2.1)(I:b.length<=100000000) :
  (iZ f d i x p q g (g.length:Int) (0,e,b)).wp λr=>∃ c:List q9,r=(e,c)/\c.length<=b.length+8200:=by
 have hg1:=hg.1
 unfold iZ
 refine vx (λz:M3=>∃ (k:Int) (c:List q9),z=(k,e,c)/\0<=k/\k<=g.length/\(c.length:Int)<=b.length+k) (λz:M3=>((g.length:Int)-z.1).toNat) ⟨0,b,rfl,xo,Z,Z⟩ ?_
 rintro _ ⟨k,c,rfl,k0,k1,hc⟩
 unfold lf
 refine zg (λJ => ?_) λJ=>zh (za (zd ⟨c,rfl,Z⟩))
 have J:=uf J
 have hw:qj (k+1)=k+1:=qo (Z) (Z)
 have N:=hg.2 _ (wa (d:=zb xm) k0 J)
 refine qk ⟨k0,J⟩ (xe (xv (P:=λz=>∃ (q:Bool) (h:Check),z=(q,e,c,h)) (zg (λ_=>z8 ⟨N.1,N.2,hv⟩ λq _=>zh (za (zd ⟨_,_,rfl⟩))) λ_=>zh (za (zd ⟨_,_,rfl⟩))) ?_))
 rintro _ ⟨q,h,rfl⟩
 refine zg (λ_=>vJ (Z) (vG (JN _ _).symm (zd ?_))) λ_=>zh (za (zd ?_))
 ·rw[hw]
  exact⟨⟨k+1,_,rfl,Z,Z,by rw[JN]; omega⟩,by simp only; omega⟩
 ·rw[hw]
  exact⟨⟨k+1,_,rfl,Z,Z,Z⟩,by simp only; omega⟩
instance (f:Form) (d:zt):Sp (iX f d) (Dx f d) (λr=>r.length<=70000000):=⟨λ⟨hD,hV,f1,_⟩=>by
 have n3:=hV.1.2.2.1.1
 have n6:=hV.1.2.2.2.2.2
 unfold iX
 refine z8 ⟨hV,hD.1⟩ λe he=>z8 hV.1 λx N=>zc SP (zc rfl (xe (xv (P:=λz=>z.2.length<=70000000) ?_ λz hz=>za (zd (by rw[bg]; exact hz)))))
 unfold tB
 refine vx (λz:M3=>∃ (k:Int) (c:List q9),z=(k,e,c)/\0<=k/\k<=x.length/\(c.length:Int)<=8264*k) (λz:M3=>((x.length:Int)-z.1).toNat) ⟨0,[],rfl,xo,Z,xo⟩ ?_
 rintro _ ⟨k,c,rfl,k0,k1,hc⟩
 unfold l8
 refine zg (λJ => ?_) λJ=>zh (za (zd (by show c.length<=_; omega)))
 have J:=uf J
 have hw:qj (k+1)=k+1:=qo (Z) (Z)
 refine qk ⟨k0,J⟩ (zg (λ_=>zh (za (zd ?_))) λ_=>zh (za (xe (xv (ziW f d k x _ k f.2.2.2.1 e c f1 (Z)) ?_))))
 ·rw[hw]
  exact⟨⟨k+1,_,rfl,Z,Z,Z⟩,by simp only; omega⟩
 ·rintro _ ⟨c1,rfl,h1⟩
  refine zh (za (xe (xv (ziX f d k x _ k f.2.2.2.2.2.1 e c1 ⟨n6.1,λy hy=>(n6.2 y hy).2⟩ ⟨he,hD.2.2.1⟩ (Z)) ?_)))
  rintro _ ⟨c2,rfl,X⟩
  refine zh (za (zd ?_))
  rw[hw]
  exact⟨⟨k+1,_,rfl,Z,Z,Z⟩,by simp only; omega⟩⟩
def it(l:List Param):Prop:=∀ x∈l,x.1.length<=24/\rg x.2.1/\rl x.2.1<=1700
instance (f:Form) (d:zt):Sp (WQ f d) (Dx f d) (λr=>it r/\r.length<=64):=⟨λ⟨hD,hV,f1,_⟩=>by
 have hn:=λx N=>(hV.2.2.2.2.1 x N).1
 have n3:=hV.1.2.2.1.1
 unfold WQ
 refine z8 hV.1 λo ho=>zc SP (zc rfl (xe (xv (P:=λz=>it z/\z.length<=64) ?_ λz hz=>za (zd (by rw[bg]; exact hz)))))
 unfold Jp
 refine vx (λz:Int×List Param=>0<=z.1/\z.1<=f.2.2.2.1.length/\(z.2.length:Int)<=z.1/\it z.2) (λz=>((f.2.2.2.1.length:Int)-z.1).toNat) ⟨zE _,by show(0:Int)<=_; omega,zE _,nofun⟩ ?_
 rintro⟨k,a⟩ ⟨k0,k1,ha,hi⟩
 dsimp only at k0 k1 ha hi
 unfold Qw
 refine zg (λJ => ?_) λJ=>zh (za (zd ⟨hi,Z⟩))
 have J:=uf J
 have hw:qj (k+1)=k+1:=qo (Z) (Z)
 have N:=hn _ (wa (d:=zb qy) k0 J)
 refine qk ⟨k0,J⟩ (zc (λh1 X=>⟨Int.not_lt.1 (yT h1),Int.not_le.1 (yT X)⟩) (zg (λ_=>zh (za (zd ?_))) λ_=>z8 ⟨xo,xo⟩ λj hj=>xe (xv (P:=λz=>∃ r:Lf.Rat,z=(a,nth f.2.2.2.1 k (zb qy),r)/\rg r/\rl r<=1700) (zg (λhv => ?_) λ_=>zh (za (zd ⟨j,rfl,hj.1,?_⟩))) ?_)))
 ·rw[hw]
  exact⟨⟨by show 0<=k+1; omega,by show k+1<=_; omega,by show(a.length:Int)<=k+1; omega,hi⟩,by simp only; omega⟩
 ·have hv:=uf hv
  have q:=E5 hD.2.2.1 k k0 hv
  refine qk ⟨k0,hv⟩ (z8 ⟨q.1,zA q.2 (xo)⟩ λr hr=>zh (za (zd ⟨r,rfl,hr.1,?_⟩)))
  have:=hr.2.1
  have:=q.2
  omega
 ·have:=hj.2; omega
 ·rintro _ ⟨r,rfl,hr,hr2⟩
  refine vJ (Z) (vG (JN _ _).symm (zd ?_))
  rw[hw]
  exact⟨⟨by show 0<=k+1; omega,by show k+1<=_; omega,by show((a++[_]).length:Int)<=k+1; rw[JN]; omega,ga hi ⟨N,hr,hr2⟩⟩,by simp only; omega⟩⟩
instance (l:List Param):Sp (mV l) (it l/\l.length<=64) (λ_=>True):=⟨λ⟨hi,hn⟩=>by
 unfold mV
 refine zc SP (zc rfl (xe (xv (P:=λz=>bt z.2/\z.2.length<=10000000) ?_ λz hz=>zh (za ?_))))
 ·unfold Zy
  refine vx (λz:Int×Unit×List Int=>0<=z.1/\z.1<=l.length/\bt z.2.2/\(z.2.2.length:Int)<=70000*z.1) (λz=>((l.length:Int)-z.1).toNat) ⟨zE _,by show(0:Int)<=_; omega,(λ_ h=>nomatch h),xo⟩ ?_
  rintro⟨k,u,a⟩ ⟨k0,k1,I,ha⟩
  dsimp only at k0 k1 I ha
  unfold mz
  refine zg (λJ => ?_) λJ=>zh (za (zd ⟨I,by show a.length<=_; omega⟩))
  have J:=uf J
  have hw:qj (k+1)=k+1:=qo (Z) (Z)
  obtain⟨x1,x2,x3⟩:=hi _ (wa (d:=zb ql) k0 J)
  refine qk ⟨k0,J⟩ (vt (by show _+1<=_; omega) (z8 ⟨x2,zA x3 (xo)⟩ λs hs => ?_))
  have hs:s.length<=40*rl (nth l k (zb ql)).2.1+50:=hs
  have l1:(cat (nth l k (zb ql)).1 [32]).length=(nth l k (zb ql)).1.length+1:=yJ _ _
  have l2:(cat (cat (nth l k (zb ql)).1 [32]) s).length=(nth l k (zb ql)).1.length+1+s.length:=by rw[yJ,l1]
  have l3:(cat (cat (cat (nth l k (zb ql)).1 [32]) s) [10]).length=(nth l k (zb ql)).1.length+1+s.length+1:=by rw[yJ,l2]; rfl
  refine vt (Z) (vt (by rw[l2]; show _+1<=_; omega) (zh (za (z8 (by rw[l3]; omega) λ⟨h,i,e⟩ he=>zh (za (zd ?_))))))
  have he:e=a++bytesOf _:=he
  subst he
  rw[hw]
  exact⟨⟨by show 0<=k+1; omega,by show k+1<=_; omega,CZ I _,by show((a++bytesOf _).length:Int)<=_; rw[List.length_append,Zp,l3]; omega⟩,by simp only; omega⟩
 ·unfold pR z4E
  exact xe (zc ⟨hz.1,zA hz.2 (xo)⟩ (zd (zd trivial)))⟩
open T PL
def Ei(e:zq):Prop:=Dx e.1 e.2.1/\Hw e.2.2.1/\pl e.2.2.2.1
def An(e:zq)(r:Answer×zq):Prop:=Ei r.2/\r.1.2.1.length<=70000000/\r.2.1=e.1/\(r.1.1≠0->r.2=e/\r.1.2.2.1=[])
def Pu(e e':zq):Prop:=e'.2.2.1.1.length=min 32 (e.2.2.1.1.length+1)/\e'.2.2.1.2.1.length=0
def Un(e e':zq):Prop:=e'.2.2.1.1.length+1=e.2.2.1.1.length/\e'.2.2.1.2.1.length=e.2.2.1.2.1.length+1
def Re(e e':zq):Prop:=e'.2.2.1.1.length=e.2.2.1.1.length+1/\e'.2.2.1.2.1.length+1=e.2.2.1.2.1.length
theorem An.er{e:zq}(h:Ei e)(n:Int)(l:List q9)(R:l.length<=70000000):An e ((n,l,[],()),e):=⟨h,R,rfl,λ_=>⟨rfl,rfl⟩⟩
instance (d:zt) (l:List q9) (n:Int) (e:zq):Sp (vB d l n e) (Ei e/\(n=0->Dx e.1 d)/\l.length<=1) (λr=>An e r/\(r.1.1=0->Pu e r.2)/\(r.1.1≠0->r.2.2.2.1=e.2.2.1)):=⟨λ⟨he,J,R⟩=>by
 have hF:FW 8200 e.1:=he.1.2.1.1
 unfold vB
 refine zg (λh=>zd ⟨An.er he n l (Z),nz (by simpa using h),λ_=>rfl⟩) λh => ?_
 have J:=J (by simpa using h)
 refine z8 he.1.1 λs hs=>z8 ⟨he.2.1,zA hs he.1.len⟩ λc hc=>z8 ⟨hF,he.2.2⟩ λg hg=>zd ⟨⟨⟨J,hc.1,hg⟩,M _,rfl,nofun⟩,λ_=>hc.2,nofun⟩⟩
instance (i n:Int) (e:zq):Sp (jQ i n e) (Ei e/\(n=0->pl i)) (λr=>An e r/\r.2.2.2.1=e.2.2.1/\r.2.2.1=e.2.1):=⟨λ⟨he,hi⟩=>by
 unfold jQ
 exact zg (λh=>zd ⟨An.er he n [] (M _),rfl,rfl⟩) λh=>zd ⟨⟨⟨he.1,he.2.1,hi (by simpa using h)⟩,M _,rfl,nofun⟩,rfl,rfl⟩⟩
theorem Rg(f:Form->List Bool->Int->T (Int×Bool))(hf:∀ x l a,FW 8200 x/\pl a->(f x l a).wp λr=>pl r.1)(e:zq)(he:Ei e):(jd f e).wp λr=>An e r/\r.2.2.2.1=e.2.2.1/\r.2.2.1=e.2.1:=by
 have hF:FW 8200 e.1:=he.1.2.1.1
 unfold jd
 exact xe (xv (hf _ _ _ ⟨hF,he.2.2⟩) λ⟨b,c⟩ I=>zg (λ_=>zd ⟨An.er he 13 [] (M _),rfl,rfl⟩) λ_=>z8 ⟨he,λ_=>I⟩ λ⟨d,e⟩ hr=>zd hr)
theorem IH(j:vC->q9->T (vC×q9×Bool))(P:vC->vC->Prop)(hj:∀ h s,Hw h/\s.length<=1000000000->(j h s).wp λr=>(Hw r.1/\r.2.1.length<=1000000000)/\(r.2.2=true->P h r.1))(e:zq)(he:Ei e):(uW j e).wp λr=>An e r/\(r.1.1=0->P e.2.2.1 r.2.2.2.1)/\(r.1.1≠0->r.2.2.2.1=e.2.2.1):=by
 have hF:FW 8200 e.1:=he.1.2.1.1
 unfold uW
 refine z8 he.1.1 λs hs=>xe (xv (hj _ _ ⟨he.2.1,zA hs he.1.len⟩) λ⟨d,g,h⟩ J=>zg (λ_=>zd ⟨An.er he 13 [] (M _),nz (a:=13) (xo),λ_=>rfl⟩) λhh=>z8 ⟨hF,J.1.2⟩ λ⟨b,x⟩ I=>zg (λh=>zd ⟨An.er he x [] (M _),nz (by simpa using h),λ_=>rfl⟩) λh => ?_)
 have I:Dx e.1 b:=I (by simpa using h)
 exact z8 ⟨hF,he.2.2⟩ λi hi=>zd ⟨⟨⟨I,J.1.1,hi⟩,M _,rfl,nofun⟩,λ_=>J.2 (by simpa using hh),nofun⟩
instance (e:zq):Sp (kU e) (Ei e) (λr=>An e r/\r.2.2.2.1=e.2.2.1):=⟨λhe=>by
 have hD:Dx e.1 e.2.1:=he.1
 unfold kU
 exact z8 hD λd J=>zg (λ_=>zd ⟨An.er he 15 d J,rfl⟩) λ_=>z8 hD λl R=>z8 R λs _=>zd ⟨⟨he,M _,rfl,nofun⟩,rfl⟩⟩
def Kn(k:Int)(e:zq)(r:Answer×zq):Prop :=
 (r.1.1=0->1<=k->k<=5->Pu e r.2)/\(r.1.1=0->k=9->Un e r.2)/\(r.1.1=0->k=10->Re e r.2)/\(¬ (r.1.1=0/\(1<=k/\k<=5\/k=9\/k=10))->r.2.2.2.1=e.2.2.1)/\(6<=k->k<=8->r.2.2.1=e.2.1)
def Ov(o:Op):Prop:=rg o.2.2.1/\rl o.2.2.1<=1700
theorem eqI{a b:Int}(h:(a==b)=true):a=b:=eq_of_beq h
theorem neI{a b:Int}(h:(a==b)=false):a≠b:=beq_eq_false_iff_ne.1 h
theorem k23{k:Int}(h:(bif (k==2)then(k==2)else(k==3))=true):1<=k/\k<=5:=by
 cases q:k==2 with
 | true=>have:=eqI q; omega
 | false=>rw[q]at h; have:=eqI h; omega
theorem Kn.ch{k:Int}{e:zq}{r:Answer×zq}(hk:1<=k/\k<=5)(h:An e r/\(r.1.1=0->Pu e r.2)/\(r.1.1≠0->r.2.2.2.1=e.2.2.1)):An e r/\Kn k e r :=
 ⟨h.1,λq _ _=>h.2.1 q,Z,Z,λq=>h.2.2 λz=>q ⟨z,.inl hk⟩,Z⟩
theorem Kn.tu{k:Int}{e:zq}{r:Answer×zq}(hk:6<=k/\k<=8)(h:An e r/\r.2.2.2.1=e.2.2.1/\r.2.2.1=e.2.1):An e r/\Kn k e r :=
 ⟨h.1,Z,Z,Z,λ_=>h.2.1,λ_ _=>h.2.2⟩
instance (o:Op) (e:zq):Sp (gO o e) (Ei e/\Ov o) (λr=>An e r/\Kn o.1 e r):=⟨λ⟨he,hv⟩=>by
 have hF:FW 8200 e.1:=he.1.2.1.1
 have hD:Dw e.2.1:=he.1.1
 unfold gO
 dsimp only
 refine zg (λk=>z8 ⟨hF,hD,hv⟩ λ⟨x,y,z⟩ hz=>z8 ⟨he,hz.1,hz.2⟩ λr hr=>zd (Kn.ch (by have:=eqI k; omega) hr)) λk1 => ?_
 refine zg (λk=>z8 ⟨hF,hD⟩ λ⟨x,y,z⟩ hz=>z8 ⟨he,hz.1,hz.2⟩ λr hr=>zd (Kn.ch (k23 k) hr)) λk2 => ?_
 refine zg (λk=>z8 ⟨hF,hD,hv⟩ λ⟨x,y,z⟩ hz=>z8 ⟨he,hz.1,hz.2⟩ λr hr=>zd (Kn.ch (by have:=eqI k; omega) hr)) λk4 => ?_
 refine zg (λk=>z8 ⟨hF,hD⟩ λ⟨x,y,z⟩ hz=>z8 ⟨he,hz.1,hz.2⟩ λr hr=>zd (Kn.ch (by have:=eqI k; omega) hr)) λk5 => ?_
 refine zg (λk=>xe (xv (Rg _ (λx l a h=>Sp.sp h) e he) λr hr=>zd (Kn.tu (by have:=eqI k; omega) hr))) λk6 => ?_
 refine zg (λk=>xe (xv (Rg _ (λx l a h=>Sp.sp h) e he) λr hr=>zd (Kn.tu (by have:=eqI k; omega) hr))) λk7 => ?_
 refine zg (λk=>z8 hF λ⟨x,y⟩ N=>z8 ⟨he,N⟩ λr hr=>zd (Kn.tu (by have:=eqI k; omega) hr)) λk8 => ?_
 refine zg (λk=>xe (xv (IH _ (λh h'=>h'.1.length+1=h.1.length/\h'.2.1.length=h.2.1.length+1) (λh s q=>Sp.sp q) e he) λr hr=>zd ?_)) λk9 => ?_
 ·have k:=eqI k
  exact⟨hr.1,Z,λq _=>hr.2.1 q,Z,λq=>hr.2.2 λz=>q ⟨z,.inr (.inl k)⟩,Z⟩
 refine zg (λk=>xe (xv (IH _ (λh h'=>h'.1.length=h.1.length+1/\h'.2.1.length+1=h.2.1.length) (λh s q=>Sp.sp q) e he) λr hr=>zd ?_)) λk10 => ?_
 ·have k:=eqI k
  exact⟨hr.1,Z,Z,λq _=>hr.2.1 q,λq=>hr.2.2 λz=>q ⟨z,.inr (.inr k)⟩,Z⟩
 have n1:=neI k1
 have n2:Ne (α:=Int) o.1 2:=λq=>by rw[q]at k2; cases k2
 have n3:Ne (α:=Int) o.1 3:=λq=>by rw[q]at k2; cases k2
 have n4:=neI k4
 have n5:=neI k5
 have n6:=neI k6
 have n7:=neI k7
 have n8:=neI k8
 have n9:=neI k9
 have n10:=neI k10
 have fin:∀ r:Answer×zq,An e r/\r.2.2.2.1=e.2.2.1->An e r/\Kn o.1 e r:=λr h=>⟨h.1,Z,Z,Z,λ_=>h.2,Z⟩
 exact zg (λk=>z8 he λr hr=>zd (fin _ hr)) λ_=>zd (fin _ ⟨An.er he 1 [] (M _),rfl⟩)⟩
instance (o:Op) (e:zq):Sp (uA o e) (Ei e/\Ov o) (λr=>An e r/\Kn o.1 e r):=⟨λh=>by
 unfold uA cN
 refine xl rfl (zg (λ_=>zd ⟨An.er h.1 14 [] (M _),?_⟩) λ_=>z8 h λ⟨b,c⟩ hr=>xe (xl rfl (zd (zd hr))))
 exact⟨nz (a:=14) (xo),nz (a:=14) (xo),nz (a:=14) (xo),λ_=>rfl,λ_ _=>rfl⟩⟩
open T PL
theorem rg_of{a:Lf.Rat}(h:wf zm a):rg a:=⟨λx N=>by have:=h.2.1 x N; exact⟨this.1,zM this.2 (xo)⟩,λx N=>by have:=h.2.2.1 x N; exact⟨this.1,zM this.2 (xo)⟩⟩
theorem zmZ(a:Lf.Rat):rl a<=bk zm a:=by
 have e:bk zm a=1+((We (λ_=>1) a.2.1+1)+((We (λ_=>1) a.2.2.1+1)+1)):=rfl
 rw[e,Hu,Hu]
 unfold rl
 omega
theorem IK{α:Type}(f:α->Nat){l:List α}{x:α}(h:x∈l):f x<=We f l:=by
 induction l with
 | nil=>cases h
 | cons a r ih =>
  show _<=f a+We f r
  rcases List.mem_cons.1 h with rfl | h
  ·omega
  ·have:=ih h; omega
theorem Ht{α:Type}(f:α->Nat)(hf:∀ x,1<=f x):∀ l:List α,l.length<=We f l
 | []=>U _
 | a::r=>by have:=Ht f hf r; have:=hf a; show r.length+1<=f a+We f r; omega
theorem ND(e:Expr):1<=bkE e:=by cases e; unfold bkE; omega
theorem EC:∀ (e:Expr),wfE e->bkE e<=KK->EW KK e
 | .mk k n s l,hw,I=>by
  unfold wfE at hw
  unfold bkE at I
  rw[NF]at I
  have h1:=Ht (bk .expr) (λx=>ND x) l
  refine .mk (rg_of ⟨trivial,hw.2.1.2.1,hw.2.1.2.2.1,trivial⟩) (by unfold rl; omega) (Z) (Z) λx N => ?_
  have X:=IK (bk .expr) N
  have h3:bk .expr x=bkE x:=rfl
  exact EC x ((S4 l).1 hw.2.2.2.1 x N) (Z)
termination_by e=>zR e
decreasing_by have:=zO N; simp; omega
theorem z0J:∀ (τ:Ty) (x:den τ),1<=bk τ x
 | .int _,_=>U _
 | .bool,_=>U _
 | .str,_=>Nat.le_add_left ..
 | .sl _,_=>Nat.le_add_left ..
 | .nil,_=>U _
 | .cons a b,x=>zA (z0J a x.1) (Nat.le_add_right ..)
 | .expr,x=>ND x
theorem bl{τ:Ty}(l:List (den τ)):l.length+1<=bk (.sl τ) l:=Nat.succ_le_succ (Ht _ (z0J τ) l)
theorem bm{τ:Ty}{l:List (den τ)}{x:den τ}(h:x∈l):bk τ x+1<=bk (.sl τ) l:=Nat.succ_le_succ (IK _ h)
theorem zch(f:Form)(hw:wf qz f)(I:bk qz f<=1048576):FW KK f:=by
 have kk:KK=2000000:=rfl
 obtain⟨w1,w2,w3,w4,w5,w6,-⟩:=hw
 have e:bk qz f=bk (.sl qw) f.1+(bk (.sl ql) f.2.1+(bk (.sl xy) f.2.2.1+(bk (.sl qy) f.2.2.2.1+(bk (.sl xp) f.2.2.2.2.1+(bk (.sl xm) f.2.2.2.2.2.1+1))))):=rfl
 have l1:=bl (τ:=qw) f.1
 have l2:=bl (τ:=ql) f.2.1
 have l3:=bl (τ:=xy) f.2.2.1
 have l4:=bl (τ:=qy) f.2.2.2.1
 have l5:=bl (τ:=xp) f.2.2.2.2.1
 have l6:=bl (τ:=xm) f.2.2.2.2.2.1
 refine⟨⟨Z,λx N => ?_⟩,⟨Z,λx N => ?_⟩,⟨Z,λx N => ?_⟩,⟨Z,λx N => ?_⟩,⟨Z,λx N => ?_⟩,Z,λx N => ?_⟩
 ·have m:=bm (τ:=qw) N
  have q:bk qw x=(x.1.length+1)+(1+1):=rfl
  omega
 ·have m:=bm (τ:=ql) N
  have q:bk ql x=(x.1.length+1)+(bk zm x.2.1+1):=rfl
  have:=zmZ x.2.1
  exact⟨Z,rg_of (w2 x N).2.1,Z⟩
 ·have m:=bm (τ:=xy) N
  have q:bk xy x=(x.1.length+1)+((x.2.1.length+1)+1):=rfl
  exact⟨Z,Z⟩
 ·have m:=bm (τ:=qy) N
  have q:bk qy x=(x.1.length+1)+(1+(1+(1+1))):=rfl
  omega
 ·have m:=bm (τ:=xp) N
  have q:bk xp x=(x.1.length+1)+(1+((x.2.2.1.length+1)+(bkE x.2.2.2.1+(bkE x.2.2.2.2.1+1)))):=rfl
  have w:=w5 x N
  exact⟨Z,Z,EC _ w.2.2.2.1 (Z),EC _ w.2.2.2.2.1 (Z)⟩
 ·have m:=bm (τ:=xm) N
  have q:bk xm x=(x.1.length+1)+(1+(1+(bkE x.2.2.2.1+(bkE x.2.2.2.2.1+1)))):=rfl
  have w:=w6 x N
  exact⟨Z,EC _ w.2.2.2.1 (Z),EC _ w.2.2.2.2.1 (Z)⟩
open T PL
instance (e:Expr) (n:Int):Sp (cm e n) (EW KK e /\ -1000000000<=n/\n<=1000000000) (λr=>r<=n/\min n 0-40000000<=r):=⟨λ⟨h,hn⟩=>by
 unfold cm
 refine sM (x:=(e,n)) (σ:=Expr×Int) (λ(e,n)=>EW KK e /\ -1000000000<=n/\n<=1000000000) (λ(e,_)=>zR e) (λ(e,n) (r:Int)=>r<=n/\min n 0-40000000<=r) ?_ ?_ ⟨h,hn⟩
 ·intro g g' hg x
  unfold dE oh eS
  exact mono
 ·rintro⟨e,n⟩ ⟨he,h0,h1⟩ g hg
  cases he with
  | @mk kd q s L g1 g2 g3 g4 g5 =>
  have kk:KK=2000000:=rfl
  have r1:=(z05 (a:=q)).1
  have r2:=(z05 (a:=q)).2
  unfold dE oh
  simp only[Expr.kids,Expr.num,Expr.name]
  simp(disch:=omega) only[qo]
  refine xe (xv (vx (Q:=λr=>r<=n/\min n 0-40000000<=r) (λz:Int×Int=>0<=z.2/\z.2<=L.length/\z.1<=n/\min n 0-40000000<=z.1) (λz=>((L.length:Int)-z.2).toNat) ⟨zE _,by show(0:Int)<=_; omega,by show n-3-_-_-_<=n; omega,by show _<=n-3-_-_-_; omega⟩ ?_) λr hr=>zd hr)
  rintro⟨b,i⟩ ⟨i0,i1,b0,b1⟩
  dsimp only at i0 i1 b0 b1
  unfold eS
  refine zg (λJ => ?_) λJ=>zd ⟨b0,b1⟩
  have J:=Y.1 J
  have d1:i<(L.length:Int):=uf J.1
  have d2:0<=b:=uf J.2
  have hw:qj (i+1)=i+1:=qo (Z) (Z)
  have hm:=wa (l:=L) (d:=zb .expr) i0 d1
  refine qk ⟨i0,d1⟩ (xe (xv (hg (nth L i (zb .expr),b) ⟨g5 _ hm,Z,Z⟩ (by have:=zO hm; simp; omega)) λr hr=>zd ?_))
  have hr:r<=b/\min b 0-40000000<=r:=hr
  rw[hw]
  exact⟨⟨by show 0<=i+1; omega,by show i+1<=_; omega,by show r<=n; omega,by show _<=r; omega⟩,by simp only; omega⟩⟩
abbrev z0w:Int := -1000000000
theorem Mf{α:Type}(l:List α)(d:α)(R:l.length<=KK)(c0:Int)(hc:z0w<=c0/\c0<=600){hl:Int×Int->T ((Int×Int)⊕Int)}
  (step:∀ c i:Int,0<=i->i<l.length->0<=c->c<=600->nth l i d∈l->(hl (c,i)).wp λz=>∃ c',z=.inl (c',qj (i+1))/\c'<=c/\z0w<=c')
  (stop:∀ c i:Int,((decide (i<(l.length:Int)))&&(decide ((0:Int)<=c)))=false->(hl (c,i)).wp λz=>z=.inr c):(T.loop hl (c0,0)).wp λr=>r<=c0/\z0w<=r:=by
 have kk:KK=2000000:=rfl
 refine vx (λz:Int×Int=>0<=z.2/\z.2<=l.length/\z.1<=c0/\z0w<=z.1) (λz=>((l.length:Int)-z.2).toNat) ⟨zE _,by show(0:Int)<=_; omega,zE _,hc.1⟩ ?_
 rintro⟨c,i⟩ ⟨i0,i1,b0,b1⟩
 dsimp only at i0 i1 b0 b1
 cases J:(decide (i<(l.length:Int)))&&(decide ((0:Int)<=c))with
 | true =>
  have J:=Y.1 J
  have d1:i<(l.length:Int):=uf J.1
  have d2:0<=c:=uf J.2
  have hw:qj (i+1)=i+1:=qo (Z) (Z)
  refine xv (step c i i0 d1 d2 (Z) (wa i0 d1)) ?_
  rintro _ ⟨c',rfl,q1,q2⟩
  rw[hw]
  exact⟨⟨by show 0<=i+1; omega,by show i+1<=_; omega,by show c'<=_; omega,q2⟩,by simp only; omega⟩
 | false =>
  refine xv (stop c i J) ?_
  rintro _ rfl
  exact⟨b0,b1⟩
instance (f:Form):Sp (tn f) (FW KK f) (λr=>r=false->FW 8200 f):=⟨λh=>by
 have kk:KK=2000000:=rfl
 have lo:z0w = -1000000000:=rfl
 obtain⟨⟨n1,f1⟩,⟨n2,f2⟩,⟨n3,f3⟩,⟨n4,f4⟩,⟨n5,f5⟩,n6,f6⟩:=h
 unfold tn
 simp(disch:=omega) only[qo]
 generalize hS:(f.1.length:Int)+f.2.1.length+f.2.2.1.length+f.2.2.2.1.length+f.2.2.2.2.1.length+f.2.2.2.2.2.1.length=S
 refine xe (xv (Mf f.2.1 (zb ql) n2 _ ⟨Z,Z⟩ (λc i i0 i1 c0 c1 hm => ?_) λc i J => ?_) λc1 h1 => ?_)
 ·have m:=f2 _ hm
  have r1:=(z05 (a:=(nth f.2.1 i (zb ql)).2.1)).1
  have r2:=(z05 (a:=(nth f.2.1 i (zb ql)).2.1)).2
  have m1:=m.1
  have m2:=m.2.2
  unfold rM
  dsimp only
  simp(disch:=omega) only[qo]
  exact wU (by simp[i1,c0]) (qk ⟨i0,i1⟩ (qk ⟨i0,i1⟩ (qk ⟨i0,i1⟩ (zd ⟨_,rfl,Z,Z⟩))))
 ·exact xl J (zd rfl)
 refine xe (xv (Mf f.1 (zb qw) n1 c1 ⟨h1.2,Z⟩ (λc i i0 i1 c0 c1 hm => ?_) λc i J => ?_) λc2 X => ?_)
 ·have m:=f1 _ hm
  unfold rN
  dsimp only
  simp(disch:=omega) only[qo]
  exact wU (by simp[i1,c0]) (qk ⟨i0,i1⟩ (zd ⟨_,rfl,Z,Z⟩))
 ·exact xl J (zd rfl)
 refine xe (xv (Mf f.2.2.1 (zb xy) n3 c2 ⟨X.2,Z⟩ (λc i i0 i1 c0 c1 hm => ?_) λc i J => ?_) λc3 h3 => ?_)
 ·have m:=f3 _ hm
  have m1:=m.1
  have m2:=m.2
  unfold rO
  dsimp only
  simp(disch:=omega) only[qo]
  exact wU (by simp[i1,c0]) (qk ⟨i0,i1⟩ (qk ⟨i0,i1⟩ (zd ⟨_,rfl,Z,Z⟩)))
 ·exact xl J (zd rfl)
 refine xe (xv (Mf f.2.2.2.1 (zb qy) n4 c3 ⟨h3.2,Z⟩ (λc i i0 i1 c0 c1 hm => ?_) λc i J => ?_) λc4 h4 => ?_)
 ·have m:=f4 _ hm
  unfold rP
  dsimp only
  simp(disch:=omega) only[qo]
  exact wU (by simp[i1,c0]) (qk ⟨i0,i1⟩ (zd ⟨_,rfl,Z,Z⟩))
 ·exact xl J (zd rfl)
 refine xe (xv (Mf f.2.2.2.2.1 (zb xp) n5 c4 ⟨h4.2,Z⟩ (λc i i0 i1 c0 c1 hm => ?_) λc i J => ?_) λc5 h5 => ?_)
 ·obtain⟨m1,m2,m3,m4⟩:=f5 _ hm
  unfold rQ
  dsimp only
  simp(disch:=omega) only[qo]
  refine wU (by simp[i1,c0]) (qk ⟨i0,i1⟩ (qk ⟨i0,i1⟩ (qk ⟨i0,i1⟩ (qk ⟨i0,i1⟩ (z8 ⟨m3,Z,Z⟩ λx N=>z8 ⟨m4,Z,Z⟩ λy hy=>zd ⟨_,rfl,Z,Z⟩)))))
 ·exact xl J (zd rfl)
 refine xe (xv (Mf f.2.2.2.2.2.1 (zb xm) n6 c5 ⟨h5.2,Z⟩ (λc i i0 i1 c0 c1 hm => ?_) λc i J => ?_) λc6 h6=>zd λe => ?_)
 ·obtain⟨m1,m3,m4⟩:=f6 _ hm
  unfold rR
  dsimp only
  simp(disch:=omega) only[qo]
  refine wU (by simp[i1,c0]) (qk ⟨i0,i1⟩ (qk ⟨i0,i1⟩ (qk ⟨i0,i1⟩ (z8 ⟨m3,Z,Z⟩ λx N=>z8 ⟨m4,Z,Z⟩ λy hy=>zd ⟨_,rfl,Z,Z⟩))))
 ·exact xl J (zd rfl)
 have e:=yT e
 exact⟨⟨Z,f1⟩,⟨Z,f2⟩,⟨Z,f3⟩,⟨Z,f4⟩,⟨Z,f5⟩,Z,f6⟩⟩
def okL(l:List Op)(n:Int):Prop:=∀ i:Int,0<=i->i<l.length->i<n->(nth l i (zb gU)).2.2.1.2.1.length<=3/\(nth l i (zb gU)).2.2.1.2.2.1.length<=3
instance (l:List Op):Sp (Qb l) (l.length<=KK) (λr=>r=false->okL l 25):=⟨λh=>by
 have kk:KK=2000000:=rfl
 unfold Qb Ve
 refine xe (xv (P:=λz:Unit⊕Bool=>z.elim (λ_=>okL l 25) λb=>b=true) ?_ λz hz => ?_)
 ·refine vx (σ:=Int) (λi=>0<=i/\i<=l.length/\okL l i) (λi=>((l.length:Int)-i).toNat) ⟨Z,Z,λi _ _ _=>Z⟩ λi ⟨i0,i1,hi⟩ => ?_
  unfold tT
  dsimp only
  refine zg (λJ => ?_) λJ=>zd λj j0 j1 j2=>hi j j0 j1 ?_
  ·have J:=Y.1 J
   have d1:i<(l.length:Int):=uf J.1
   have hw:qj (i+1)=i+1:=qo (Z) (Z)
   refine zc ⟨⟨i0,d1⟩,λ_=>⟨⟨i0,d1⟩,λ_=>⟨i0,d1⟩⟩⟩ (zg (λ_=>zd rfl) λe=>zd ?_)
   rw[hw]
   simp only[Bool.or_eq_false_iff]at e
   have e1:=yT e.2.1
   have e2:=yT e.2.2
   refine⟨⟨Z,Z,λj j0 j1 j2 => ?_⟩,Z⟩
   by_cases q:j=i
   ·subst q; exact⟨Z,Z⟩
   ·exact hi j j0 j1 (Z)
  ·simp only[Bool.and_eq_false_iff]at J
   rcases J with J | J
   ·have:=yT J; omega
   ·have:=yT J; omega
 ·rcases z with z | z
  ·exact zd λ_=>hz
  ·have hz:z=true:=hz
   subst hz
   exact zd nofun⟩
open T PL
instance (f:Form):Sp (iC f) (FW 8200 f) (λr=>r.elim (λz=>z.2.1=0/\Ei z.2.2) λz=>z.2≠0):=⟨λh=>by
 unfold iC
 refine z8 h λ⟨s,k⟩ _=>zg (λe=>zd (by simpa using e)) λ_=>z8 h λa ha=>z8 ha λ⟨l,b,i,d,c,e,g,j⟩ hr=>zg (λq => ?_) λq => ?_
 ·have I:b.length<=1:=hr.2
  exact zc (Z) (zc ⟨xo,by show(0:Int)<((b.length+1:Nat):Int); omega⟩ (zc ⟨rfl,by rw[JN]; show 0+0<_; omega⟩ (zd (by simpa using q))))
 ·have hD:Dx a (d,c,l.1,e,g,j,()):=hr.1 (by simpa using q)
  rw[bg,bg,bg,bg,bg]
  exact za (za (za (za (za (z8 ⟨ha.1,xo,xo⟩ λm hm=>zd ⟨rfl,hD,⟨M _,nofun,nofun⟩,hm⟩)))))⟩
open T PL
theorem zfM{l:List Op}{n:Int}(h:okL l n)(hr:∀ o∈l,rg o.2.2.1){i:Int}(i0:0<=i)(i1:i<l.length)(i2:i<n):Ov (nth l i (zb gU)):=by
 have:=h i i0 i1 i2
 exact⟨hr _ (wa i0 i1),by unfold rl; omega⟩
theorem z2r(hk:yz.run=some true):(T.bind yz λh=>T.ret h).wp λr=>r=true:=xe (gD hk (zd rfl))
noncomputable def Cy (l:List Op) (e:zq):Nat->zq
 | 0=>e
 | k+1=>match(uA (nth l (k:Int) (zb gU)) (Cy l e k)).run with | some r=>r.2 | none=>e
noncomputable def anN (l:List Op) (e:zq) (k:Nat):Answer:=match(uA (nth l (k:Int) (zb gU)) (Cy l e k)).run with | some r=>r.1 | none=>zb wG
theorem zcN{l:List Op}{e:zq}{k:Nat}(h:Ei (Cy l e k))(hv:Ov (nth l (k:Int) (zb gU))):(uA (nth l (k:Int) (zb gU)) (Cy l e k)).run=some (anN l e k,Cy l e (k+1))/\An (Cy l e k) (anN l e k,Cy l e (k+1))/\Kn (nth l (k:Int) (zb gU)).1 (Cy l e k) (anN l e k,Cy l e (k+1)):=by
 obtain⟨r,h1,X⟩:=T.lC.1 (Sp.sp (t:=uA (nth l (k:Int) (zb gU)) (Cy l e k)) ⟨h,hv⟩)
 have ha:anN l e k=r.1:=by unfold anN; rw[h1]
 have hs:Cy l e (k+1)=r.2:=by simp only[Cy,h1]
 rw[ha,hs]
 exact⟨h1,X⟩
theorem z0u{l:List Op}{e:zq}(he:Ei e)(hv:∀ i:Int,0<=i->i<l.length->Ov (nth l i (zb gU))):∀ k:Nat,k<=l.length->Ei (Cy l e k)
 | 0,_=>he
 | k+1,h=>(zcN (z0u he hv k (Z)) (hv k (Z) (Z))).2.1.1
theorem z4u(l:List Op)(e:zq)(R:l.length<=1000)(he:Ei e)(hv:∀ i:Int,0<=i->i<l.length->Ov (nth l i (zb gU))):(jG l e).wp λr=>r=(Cy l e l.length,(zS l.length).map (anN l e)):=by
 unfold jG iB
 refine zc SP (zc rfl (xe (xv (P:=λz=>z=(Cy l e l.length,(zS l.length).map (anN l e))) ?_ ?_)))
 ·refine vx (λz:Int×zq×List Answer=>∃ k:Nat,z=((k:Int),Cy l e k,(zS k).map (anN l e))/\k<=l.length) (λz:Int×zq×List Answer=>((l.length:Int)-z.1).toNat) ⟨0,rfl,M _⟩ ?_
  rintro _ ⟨k,rfl,hk⟩
  have hn:((zS k).map (anN l e)).length=k:=qp
  unfold cd
  refine zg (λJ => ?_) λJ => ?_
  ·have J:=uf J
   have hw:qj ((k:Int)+1)=((k+1:Nat):Int):=qo (Z) (Z)
   refine qk ⟨Z,J⟩ (xe (gD (zcN (z0u he hv k hk) (hv k (Z) J)).1 (vJ (by rw[hn]; omega) (vG (JN _ _).symm (zd ?_)))))
   rw[hw]
   exact⟨⟨k+1,by rw[List.range_succ,List.map_append]; rfl,Z⟩,by simp only; omega⟩
  ·have J:=yT J
   have e:k=l.length:=Z
   subst e
   exact zh (za (zd rfl))
 ·rintro _ rfl
  exact zh (za (zd rfl))
theorem ziN(x:G6 [qz,.sl gU])(hw:wfL [qz,.sl gU] x)(I:bkL [qz,.sl gU] x<=1048576):FW KK x.1/\List.length x.2.1<=KK/\∀ o∈x.2.1,rg o.2.2.1:=by
 have kk:KK=2000000:=rfl
 have e:bkL [qz,.sl gU] x=bk qz x.1+(bk (.sl gU) x.2.1+0):=rfl
 have:=bl (τ:=gU) x.2.1
 exact⟨zch _ hw.1 (Z),Z,λo ho=>rg_of (hw.2.1 o ho).2.2.1⟩
instance (i:Int) (n:Nat):Decidable (xf i n):=inferInstanceAs (Decidable (_/\_))
instance (a b c d:Nat):Decidable (uM a b c d):=inferInstanceAs (Decidable (_/\_))
instance (a b c d:Nat):Decidable (zu a b c d):=inferInstanceAs (Decidable (_/\_/\_))
instance (a b:Int) (c:Nat):Decidable (jf a b c):=inferInstanceAs (Decidable (_/\_/\_))
instance (a b c:Int) (d:Nat):Decidable (zn6 a b c d):=inferInstanceAs (Decidable (_/\_/\_/\_))
instance (a b:Int) (c:Nat):Decidable (dH a b c):=inferInstanceAs (Decidable (_/\_/\_/\_))
instance (a b c d e f g:Nat):Decidable (vV a b c d e f g):=inferInstanceAs (Decidable (_/\_/\_/\_))
instance (a b c d e:Nat):Decidable (Xj a b c d e):=inferInstanceAs (Decidable (_/\_))
instance (n:Int):Decidable (wfI n):=inferInstanceAs (Decidable (_=true))
instance (y:Bool) (n:Int) (l:List Int):Decidable (z3y y n l):=inferInstanceAs (Decidable (_/\_/\_))
noncomputable def nx {σ ρ:Type} (r:σ->T (σ⊕ρ)):σ⊕ρ->Option ρ
 | .inl s=>(T.loop r s).run
 | .inr y=>some y
theorem zbC{σ ρ:Type}{r:σ->T (σ⊕ρ)}{s:σ}{z:σ⊕ρ}{x:ρ}(h:(r s).run=some z)(k:nx r z=some x):(T.loop r s).run=some x:=by
 cases z with
 | inl s'=>rw[WE h]; exact k
 | inr y=>rw[pI h]; exact k
theorem nxL{σ ρ:Type}{r:σ->T (σ⊕ρ)}{s:σ}{x:ρ}(k:(T.loop r s).run=some x):nx r (.inl s)=some x:=k
theorem nxR{σ ρ:Type}{r:σ->T (σ⊕ρ)}{y:ρ}:nx r (.inr y)=some y:=rfl
theorem zaU{α β:Type}{t:T α}{f:α->T β}{a:α}{x:β}(h:t.run=some a)(k:(f a).run=some x):(t.bind f).run=some x:=(zx h f).trans k
theorem ziJ{α:Type}{b:Bool}{t e:T α}{x:α}(h:b=true)(k:t.run=some x):(T.ite b t e).run=some x:=by subst h; exact k
theorem ziI{α:Type}{b:Bool}{t e:T α}{x:α}(h:b=false)(k:e.run=some x):(T.ite b t e).run=some x:=by subst h; exact k
theorem ziZ{α:Type}{p:Prop}{t:T α}{x:α}(h:p)(k:t.run=some x):(T.W p t).run=some x:=(xj h t).trans k
theorem elL{α β γ:Type}{f:α->T γ}{g:β->T γ}{a:α}{x:γ}(h:(f a).run=some x):(zT f g (.inl a)).run=some x:=h
theorem elR{α β γ:Type}{f:α->T γ}{g:β->T γ}{a:β}{x:γ}(h:(g a).run=some x):(zT f g (.inr a)).run=some x:=h
theorem zcF{a:q9}(h:(decide (a.length<4294967281)&&a.all λb=>decide (b.toNat<128))=true):(strings_makeASCIISet a).run=some (lQ a,true):=by
 simp only[Bool.and_eq_true,decide_eq_true_eq,List.all_eq_true]at h
 unfold strings_makeASCIISet
 rw[xj ⟨h.1,λj b I=>h.2 b (zP I)⟩,wg]
theorem evd{α:Type}{t:T α}{x y:α}(h:t.run=some x)(k:x=y):t.run=some y:=by rw[h,k]
theorem zcH{e:Type}{a:List e}{n:Nat}(h:vV 0 0 0 0 0 a.length n):(T.W (a=[]->∀ r,T.leads (.W (vV 0 0 0 0 0 a.length n)<|.W (0+a.length=0+a.length)<|.ret (zQ 0 (zU (0+(0+a.length)) a)):T _) r->T.leads (.ret ([]:List e):T _) r)<|.W (vV 0 0 0 0 0 a.length n)<|.W (0+a.length=0+a.length)<|.ret (zQ 0 (zU (0+(0+a.length)) a)):T (List e)).run=some a:=by
 have e0:zQ 0 (zU (0+(0+a.length)) a)=a:=qp
 rw[e0,xj (λe r h=>by rw[e]at h; exact h.2.2),xj h,xj rfl,wg]
theorem zcI{e:Type}{a:List e}{n:Nat}(h:vV 0 0 0 0 0 a.length n):(T.W (a=[]->∀ r,T.leads (.W (vV 0 0 0 0 0 a.length n)<|.W (zu (0+a.length) 0 (0+a.length) a.length)<|.W (0+a.length=a.length)<|.ret a:T _) r->T.leads (.W (zu 0 0 0 0)<|.W ((0:Nat)=0)<|.ret ([]:List e):T _) r)<|.W (vV 0 0 0 0 0 a.length n)<|oM (0+a.length) a.length<|.ret a:T (List e)).run=some a:=by
 have e0:0+a.length=a.length:=Nat.zero_add _
 rw[xj (λe r h=>by rw[e]at h; exact⟨⟨rfl,rfl,rfl⟩,rfl,h.2.2.2⟩),xj h]
 show(T.W _ (T.W _ _)).run=_
 rw[xj ⟨e0,rfl,e0⟩,xj e0,wg]
theorem zga(hx:Nat){σ ρ:Type}{b:(σ->T ρ)->σ->T ρ}{x:σ}{y:ρ}(h:∀ k,(V8 b (k+hx) x).run=some y):(T.fix b x).run=some y:=by
 rw[yG,mj]
 exact⟨hx,λm hm=>T.yG.1 (by have:=h (m-hx); rwa [Nat.sub_add_cancel hm]at this)⟩
theorem zo4{σ ρ:Type}{b:(σ->T ρ)->σ->T ρ}{m:Nat}{x:σ}{y:ρ}(h:(b (V8 b m) x).run=some y):(V8 b (m+1) x).run=some y:=h
set_option maxRecDepth 100000 in
set_option maxHeartbeats 20000000 in
theorem z7X:yz.run=some true:=by
 unfold yz
 apply evd
 ·repeat first
    | with_reducible exact wg _
    | with_reducible exact nxR
    | with_reducible apply nxL
    | with_reducible apply zaU
    | with_reducible apply zbC
    | (with_reducible apply zga 6; intro k)
    | with_reducible apply zo4
    | with_reducible apply elL
    | with_reducible apply elR
    | (with_reducible apply ziZ; · first | decide +kernel | (intro e r h; rw[e]at h; simpa[T.leads]using h))
    | with_reducible apply ziJ (by decide +kernel)
    | with_reducible apply ziI (by decide +kernel)
    | with_reducible exact zcF (by decide +kernel)
    | dsimp only
    | exact zcH (by decide +kernel)
    | exact zcI (by decide +kernel)
    | apply zaU
    | (apply ziZ; · first | decide +kernel | (intro e r h; rw[e]at h; simpa[T.leads]using h))
    | apply ziJ (by decide +kernel)
    | apply ziI (by decide +kernel)
    | apply zbC
    | (apply zga 6; intro k)
    | exact wg _
 ·kernel_rfl
open T PL
theorem z1Z(e:zq)(h:Hw e.2.2.1):(kE e).wp λr=>r=((),e,e.2.2.1.1,e.2.2.1.2.1):=by
 have h1:=h.1
 have z:∀ n:Nat,zu (0+n) 0 (0+n) n:=λn=>⟨Nat.zero_add n,rfl,Nat.zero_add n⟩
 unfold kE
 refine xl rfl (zg (λa=>zg (λb => ?_) λb => ?_) λa=>zc (Z) (zg (λb => ?_) λb => ?_))
 ·exact zc SP (zc SP (zc rfl (zc rfl (zd (by rw[zI.1 a,zI.1 b])))))
 ·exact zc (Z) (zc SP (zc (z _) (zc rfl (zc (Nat.zero_add _) (zd (by rw[zI.1 a]))))))
 ·exact zc (z _) (zc SP (zc (Nat.zero_add _) (zc rfl (zd (by rw[zI.1 b])))))
 ·exact zc (Z) (zc (z _) (zc (z _) (zc (Nat.zero_add _) (zc (Nat.zero_add _) (zd rfl)))))
theorem RY(a:List q9)(h:a.length<=32):(nI a a).wp λr=>r=true:=by
 unfold nI XW
 refine xl (qp) (xe (xv (P:=λz=>z=.inl ()) ?_ ?_))
 ·refine vx (σ:=Int) (λi=>0<=i/\i<=a.length) (λi=>((a.length:Int)-i).toNat) ⟨Z,Z⟩ λi hi => ?_
  unfold sd
  refine zg (λJ => ?_) λJ=>zd rfl
  have J:=uf J
  have hw:qj (i+1)=i+1:=qo (Z) (Z)
  refine qk ⟨hi.1,J⟩ (qk ⟨hi.1,J⟩ (xl (by simp[wP]) (zd ?_)))
  rw[hw]; exact⟨⟨Z,Z⟩,Z⟩
 ·rintro _ rfl
  exact zd rfl
theorem zn2(h:vC)(k:Hw h):(sc h h).wp λr=>r=true:=by
 have k1:=k.1
 unfold sc
 refine xe (xv (RY h.1 (Z)) ?_)
 rintro _ rfl
 exact wU rfl (xe (xv (RY h.2.1 (Z)) λr hr=>zd hr))
end Go.AM.Lf
namespace Go.AM
open T PL Lf
instance (a:List Int):Sp (ui a) (qi a/\a.length<=4000000000) (λr=>r=vf (nv a)):=⟨λ⟨h,R⟩=>by
 unfold ui Ju
 refine xe (xv (P:=λn:Int=>∃ k:Nat,n=k/\k<=a.length/\a.take k=vf (nv a)) (vx (λn:Int=>∃ k:Nat,n=k/\k<=a.length/\nv (a.take k)=nv a) Int.toNat ⟨a.length,rfl,U _,qp⟩ ?_) ?_)
 ·rintro _ ⟨k,rfl,hk,hv⟩
  have fin:Wg (a.take k)->∃ j:Nat,(k:Int)=j/\j<=a.length/\a.take j=vf (nv a):=λht=>⟨k,rfl,hk,by rw[<- hv,H0 (Qe h k) ht]⟩
  unfold Qy
  dsimp only
  cases k with
  | zero=>exact zc (qp) (xl (qp) (zd (fin (by simp[Wg]))))
  | succ k =>
   have e1:qj (((k+1:Nat):Int)-1)=(k:Int):=by rw[qo (Z) (Z)]; omega
   rw[e1,cB]
   refine zc (λ_=>⟨Z,Z⟩) (zg (λe=>zd ⟨⟨k,rfl,Z,?_⟩,qp⟩) λe=>zd (fin ?_))
   ·have:nth a k 0=0:=by simpa using(Y.1 e).2
    rw[<- hv,Jc (Z),this]; simp
   ·rw[Z2 _ _ (Z)]
    intro y hy
    simp at hy
    rintro rfl
    rw[hy,decide_eq_true (Z)]at e
    cases e
 ·rintro _ ⟨k,rfl,hk,e⟩
  have hc:uI (e:=.int .u32) 0 (k:Int) a=vf (nv a):=by rw[<- e]; simp[uI]
  have:=wq h
  rw[hc]
  exact⟨⟨Z,Z,Z⟩,by grind [vV],rfl,by show zQ 0 _=_; simp⟩⟩
instance (x:Int):Sp (WR x) (0<=x/\x<18446744073709551616) (λr=>r=vf x.toNat):=⟨λ⟨h0,h1⟩=>by
 obtain⟨n,rfl⟩:=zF h0
 unfold WR
 rw[Gg,FY,JI (Z)]
 refine zc (Z) (z8 ⟨kf.2 ⟨Z,kf.2 ⟨Z,wE⟩⟩,qp⟩ ?_)
 rintro _ rfl
 refine zd (congrArg vf ?_)
 simp only[Qn,MA]; omega⟩
instance (a b:List Int):Sp (XY a b) (qi a/\qi b/\a.length+b.length<=1000000000) (λr=>r=JS (nv a) (nv b)):=⟨λ⟨ha,I,R⟩=>by
 have qa:=wq ha
 have qb:=wq I
 unfold XY
 refine z8 ⟨ha,Z⟩ ?_
 rintro _ rfl
 refine z8 ⟨I,Z⟩ ?_
 rintro _ rfl
 generalize nv a=A at *
 generalize nv b=B at *
 unfold JS
 refine zg (λe=>zg (λc => ?_) λc => ?_) λe => ?_
 ·rw[if_pos (Zq (by simpa using c))]; exact zd rfl
 ·have:=Zq (A:=B) (B:=A) (by simp at e c; omega)
  rw[if_neg (Z),if_pos this]; exact zd rfl
 have R:(vf A).length=(vf B).length:=Int.ofNat.inj (by simpa using e)
 have key:=F6 (r:=nJ (vf A) (vf B)) (vf A) (vf B) (xk A) (xk B) R (λi hi => ?_) (by simp[nJ])
 ·rw[qo (Z) (Z)]
  rw[vK,vK]at key
  refine xe (gD key ?_)
  split
  ·exact zd rfl
  ·split<;>exact zd rfl
 ·have e:qj ((i:Int)-1)=(i:Int)-1:=qo (Z) (Z)
  unfold nJ
  rw[bH (xk A),bH (xk B)]
  simp only[cB,bH (xk A),bH (xk B),e]
  by_cases c:lm (vf A) i<lm (vf B) i
  ·simp[c,hi,<- R]
  ·by_cases c2:lm (vf B) i<lm (vf A) i<;>simp[c,c2,hi,<- R]⟩
instance (a:List Int) (i:Int):Sp (nc a i) (qi a/\0<=i) (λr=>r=lm a i.toNat):=⟨λ⟨ha,h⟩=>by
 obtain⟨n,rfl⟩:=zF h
 have:=bV ha n
 unfold nc
 refine zg (λc=>qk ⟨h,by simpa using c⟩ (zd ?_)) λc=>zd ?_
 ·rw[cB,bH ha,jm (Z) (Z)]; rfl
 ·rw[zbB (by simp at c; simpa using c)]; rfl⟩
instance (a:List Int):Sp (Jt a) (qi a/\a.length<=1000000000) (λr=>r.2=true->r.1=nv a/\nv a<18446744073709551616):=⟨λ⟨ha,R⟩=>by
 unfold Jt
 refine z8 ⟨ha,Z⟩ ?_
 rintro _ rfl
 have hn:=vK (nv a)
 have N:=xk (nv a)
 generalize vf (nv a)=x at *
 rw[<- hn]
 refine zg (λ_=>zd nofun) λc => ?_
 have c:x.length<=2:=by simp at c; omega
 unfold Hi
 have X:=QW N
 refine xe (xv (P:=λv:Int=>v=nv x) (vx (λs:Int×Int=>∃ k:Nat,s.2=(k:Int)-1/\k<=x.length/\s.1=nv (x.drop k)) (λs=>(s.2+1).toNat) ⟨x.length,qo (Z) (Z),U _,qp⟩ ?_) ?_)
 ·rintro⟨_,_⟩ ⟨k,rfl,hk,rfl⟩
  unfold U6
  dsimp only
  cases k with
  | zero=>exact xl (qp) (zd rfl)
  | succ k =>
   have e1:((k+1:Nat):Int)-1=k:=Z
   have h3:=QW (mn N (k+1))
   have h4:nv (x.drop (k+1))<4294967296:=by
    refine Nat.lt_of_lt_of_le h3 (zA (zK (Z) (show _<=1 by simp; omega)) (Z))
   have h5:=bV N k
   rw[e1,qo (Z) (Z),cB,bH N,zdr (Z) (Z) (Z) (Z)]
   refine wU (qp) (zc (Z) (qk ⟨Z,Z⟩ (zd ⟨⟨k,rfl,Z,?_⟩,qp⟩)))
   rw[UX (a:=x) (i:=k) (Z)]; omega
 ·rintro _ rfl
  refine zd λ_=>⟨rfl,Nat.lt_of_lt_of_le X (zA (zK (Z) c) (Z))⟩⟩
theorem DT(xs:List Int)(n:Nat):nv (xs++[(n:Int)])=nv xs+4294967296 ^ xs.length*n:=by rw[mv]; simp
theorem VM{xs:List Int}(h:qi xs){n:Nat}(h1:n<4294967296):qi (xs++[(n:Int)]):=Qd.2 ⟨h,λy hy=>wb⟩
def Gr(n:Nat)(P:Nat->Nat->Prop)(s:Int×Int×List Int):Prop:=∃ c i:Nat,s.1=(c:Int)/\s.2.1=(i:Int)/\c<=1/\i<=n/\qi s.2.2/\s.2.2.length=i/\P i (nv s.2.2+c*4294967296 ^ i)
theorem SE{c x y:Nat}(hc:c<=1)(N:x<4294967296)(hy:y<4294967296):xr (xr ((c:Int)+x)+y)=((c+x+y:Nat):Int):=by
 rw[jm (x:=(c:Int)+x) (Z) (Z),jm (Z) (Z)]; omega
theorem LH{P h2 c a b p q:Nat}(h:h2+c*P=a+b):h2+P*((c+p+q) % 4294967296)+(c+p+q) / 4294967296*(P*4294967296)=(a+P*p)+(b+P*q):=by
 have e:(c+p+q)=(c+p+q) % 4294967296+4294967296*((c+p+q) / 4294967296):=Z
 grind
instance (a b:List Int):Sp (Jq a b) (qi a/\qi b/\a.length+b.length<=1000000000) (λr=>∃ n,r=vf n/\n<=nv a+nv b):=⟨λ⟨ha,I,R⟩=>by
 obtain⟨m,hm⟩:∃ m:Nat,m=max a.length b.length+1:=⟨_,rfl⟩
 have em:qj (dZ (a.length:Int) (b.length:Int)+1)=(m:Int):=by
  have:dZ (a.length:Int) (b.length:Int)=((m-1:Nat):Int):=by unfold dZ; split<;>omega
  rw[this,qo (Z) (Z)]; omega
 unfold Jq KW
 refine zc SP (zc rfl (xe (xv (P:=λr:List Int=>qi r/\r.length<=4000000000/\nv r<=nv a+nv b) (vx (Gr m λi v=>v=nv (a.take i)+nv (b.take i)) (λs=>m-s.2.1.toNat) ⟨0,0,rfl,rfl,Z,Z,wE,rfl,qp⟩ ?_) ?_)))
 ·rintro⟨_,_,xs⟩ ⟨c,i,rfl,rfl,hc,hi,R,hn,hv⟩
  have N:=bV ha i
  have hy:=bV I i
  unfold XX
  dsimp only at R hn hv ⊢
  rw[em]
  refine zg (λd=>z8 ⟨ha,Z⟩ ?_) λd=>zh (za (zd ⟨R,Z,?_⟩))
  ·rintro _ rfl
   refine z8 ⟨I,Z⟩ ?_
   rintro _ rfl
   have d:=uf d
   rw[zG,SE hc N hy,FY,Gg,i1 i (Z)]
   refine vJ (Z) (zc (Z) (vG (qp) (zd ⟨⟨_,i+1,rfl,rfl,Z,Z,VM R (Z),by simp; omega,?_⟩,by simp; omega⟩)))
   dsimp only at hv ⊢
   rw[DT,hn,wF,wF,zL]
   exact LH hv
  ·have d:=yT d
   rw[jL (Z),jL (Z)]at hv
   omega
 ·rintro xs ⟨R,hn,hv⟩
  rw[bg]
  refine za (z8 ⟨R,hn⟩ ?_)
  rintro _ rfl
  exact zd ⟨_,rfl,hv⟩⟩
instance (a:List Int):Sp (Qx a 1) (qi a/\a.length<=1000000000) (λr=>∃ n,r=vf n/\n<=nv a*2):=⟨λ⟨ha,la⟩=>by
 have qa:=wq ha
 unfold Qx
 refine z8 ⟨ha,Z⟩ ?_
 rintro _ rfl
 have N:=xk (nv a)
 have hxn:=vK (nv a)
 generalize vf (nv a)=x at *
 have e1:rV (dZ (1:Int) (-4096)) 4096=1:=xo
 have e3:qj (Int.tdiv (1:Int) 32)=0:=xo
 have e4:xr (Int.tmod (1:Int) 32)=((1:Nat):Int):=xo
 have e5:qj ((x.length:Int)+1)=((x.length+1:Nat):Int):=i1 _ (Z)
 simp only[e1,e3,e4]
 unfold Vn
 refine xl rfl (zc (Z) (zc ⟨Z,Z,Z,Z⟩ (zc (Z) (vG rfl (xe (xv (P:=λr:List Int=>qi r/\r.length<=4000000000/\nv r<=nv a*2) (vx (Gr (x.length+1) λi v=>v=nv (x.take i)*2 ^ 1) (λs=>x.length+1-s.2.1.toNat) ⟨0,0,rfl,rfl,Z,Z,wE,rfl,qp⟩ ?_) ?_))))))
 ·rintro⟨_,_,xs⟩ ⟨c,i,rfl,rfl,hc,hi,R,hn,hv⟩
  have Dz:=bV N i
  unfold tV
  dsimp only at R hn hv ⊢
  rw[e5]
  refine zg (λd=>z8 ⟨N,Z⟩ ?_) λd=>zh (za (zd ⟨R,Z,?_⟩))
  ·rintro _ rfl
   have d:=uf d
   obtain⟨s1,s2,s3⟩:=BY (s:=1) (h:=c) (Z) Dz (Z)
   rw[zG,E9 Dz (Z),RF (Z) (Z),DY _ _ 1 (Z),FY,Gg,i1 i (Z)]
   refine zc (Z) (vJ (Z) (zc (Z) (vG (qp) (zd ⟨⟨_,i+1,rfl,rfl,Z,Z,VM R (Z),by simp; omega,?_⟩,by simp; omega⟩))))
   dsimp only
   rw[DT,hn,wF,zL,show(lm x i*2 ^ 1+c) % 4294967296=c+lm x i*2 ^ 1 % 4294967296 by omega]
   exact GJ hv rfl
  ·have d:=yT d
   rw[jL (Z),hxn]at hv
   omega
 ·rintro xs ⟨R,hn,hv⟩
  rw[bg]
  refine za (z8 ⟨R,hn⟩ ?_)
  rintro _ rfl
  exact zd ⟨_,rfl,hv⟩⟩
theorem EZ{P h2 zB c x y:Nat}{z6:Nat}(h:h2+zB=z6+c*P)(hc:c<=1)(N:x<4294967296)(hy:y<4294967296) :
  h2+P*((x+4294967296*(if x<y+c then 1 else 0))-(y+c))+(zB+P*y)=z6+P*x+(if x<y+c then 1 else 0)*(P*4294967296):=by
 have key:∀ k:Nat,y+c<=x+4294967296*k->h2+P*(x+4294967296*k-(y+c))+(zB+P*y)=z6+P*x+k*(P*4294967296):=by
  intro k hk
  obtain⟨d,J⟩:∃ d,d=x+4294967296*k-(y+c):=⟨_,rfl⟩
  have hd2:d+(y+c)=x+4294967296*k:=Z
  grind
 split
 ·exact key 1 (Z)
 ·exact key 0 (Z)
instance (a b:List Int):Sp (Js a b) (qi a/\qi b/\a.length+b.length<=1000000000/\nv b<=nv a) (λr=>r.1=vf (nv a-nv b)):=⟨λ⟨ha,I,hL,hle⟩=>by
 unfold Js
 refine z8 ⟨ha,I,hL⟩ ?_
 rintro _ rfl
 unfold KY
 refine xl (by unfold JS; rw[if_neg (Z)]; split<;>rfl) (zc SP (zc rfl (xe (xv (P:=λr:List Int=>qi r/\r.length<=4000000000/\nv r=nv a-nv b) (vx (λs:Int×Int×List Int=>∃ c i:Nat,s.1=(c:Int)/\s.2.1=(i:Int)/\c<=1/\i<=a.length/\qi s.2.2/\s.2.2.length=i/\nv s.2.2+nv (b.take i)=nv (a.take i)+c*4294967296 ^ i) (λs=>a.length-s.2.1.toNat) ⟨0,0,rfl,rfl,Z,Z,wE,rfl,qp⟩ ?_) ?_))))
 ·rintro⟨_,_,xs⟩ ⟨c,i,rfl,rfl,hc,hi,R,hn,hv⟩
  have N:=bV ha i
  have hy:=bV I i
  unfold W5
  dsimp only at R hn hv ⊢
  refine zg (λd=>z8 ⟨ha,Z⟩ ?_) λd=>zh (za (zd ⟨R,Z,?_⟩))
  ·rintro _ rfl
   refine z8 ⟨I,Z⟩ ?_
   rintro _ rfl
   have d:=uf d
   simp only[zG]
   have e0:xr ((lm b i:Int)+(c:Int))=((lm b i+c:Nat):Int):=by rw[jm (Z) (Z)]; omega
   have e1:(bif decide ((lm a i:Int)<((lm b i+c:Nat):Int))then(1:Int)else 0)=((if lm a i<lm b i+c then 1 else 0:Nat):Int):=wb
   have e2:jT (xr ((bif decide ((lm a i:Int)<((lm b i+c:Nat):Int))then xr ((lm a i:Int)+4294967296)else(lm a i:Int))-((lm b i+c:Nat):Int)))=(((lm a i+4294967296*(if lm a i<lm b i+c then 1 else 0))-(lm b i+c):Nat):Int):=by
    by_cases q:lm a i<lm b i+c
    ·rw[if_pos q,decide_eq_true (Z),cond_true,jm (x:=(lm a i:Int)+4294967296) (Z) (Z),jm (Z) (Z),YK (Z) (Z)]; omega
    ·rw[if_neg q,decide_eq_false (Z),cond_false,jm (Z) (Z),YK (Z) (Z)]; omega
   simp only[e0,e1,e2,i1 i (show i<=4000000000 by omega)]
   refine vJ (Z) (vG (qp) (zd ⟨⟨_,i+1,rfl,rfl,by split<;>omega,Z,VM R (by split<;>omega),by simp; omega,?_⟩,by simp; omega⟩))
   dsimp only
   rw[DT,hn,wF,wF,zL]
   exact EZ hv hc N hy
  ·have d:=yT d
   have Ul:i=a.length:=Z
   subst Ul
   rw[List.take_length]at hv
   have h1:=iU b (min a.length b.length) (Z)
   have FL:=QW ha
   have T7:nv (b.take a.length)=nv b:=by
    by_cases q:b.length<=a.length
    ·grind
    ·rw[show min a.length b.length=a.length by omega]at h1
     rcases Nat.eq_zero_or_pos (nv (b.drop a.length))with z | z
     ·grind
     ·have:=Nat.mul_le_mul_left (4294967296 ^ a.length) z
      omega
   have Yx:=QW R
   have:c=0:=wb
   grind
 ·rintro xs ⟨R,hn,hv⟩
  rw[bg]
  refine za (z8 ⟨R,hn⟩ ?_)
  rintro _ rfl
  exact zd (by rw[hv])⟩
instance (a:List Int) (y:Int):Sp (Qz a y) (qi a/\a.length<=1000000000/\0<y/\y<4294967296) (λr=>0<=r.2/\r.2<y/\r.1.length<=a.length):=⟨λ⟨ha,la,h0,h1⟩=>by
 unfold Qz Vp
 refine zc ⟨Z,Z,Z,Z⟩ (vG (qp) (xe (xv (P:=λr:Int×List Int=>0<=r.1/\r.1<y/\qi r.2/\r.2.length=a.length) (vx (λs:Int×Int×List Int=>0<=s.1/\s.1<y /\ -1<=s.2.1/\s.2.1<a.length/\qi s.2.2/\s.2.2.length=a.length) (λs=>(s.2.1+1).toNat) ⟨zE _,h0,?_,?_,vo _,qp⟩ ?_) ?_)))
 ·dsimp only; rw[qo (Z) (Z)]; omega
 ·dsimp only; rw[qo (Z) (Z)]; omega
 ·rintro⟨d,i,c⟩ ⟨d0,d1,i0,i1,hc,hn⟩
  have N:=dY ha i
  unfold tW
  dsimp only at d0 d1 i0 i1 hc hn ⊢
  rw[cB,zdr d0 (Z) N.1 N.2,sI (Z)]
  refine zg (λe=>zc (Z) (qk ?_ (zc (Z) (qk ?_ (zc ⟨rfl,?_⟩ (zc (Z) (vG (qp) (zd ⟨⟨Int.emod_nonneg _ (Z),Int.emod_lt_of_pos _ h0,?_⟩,?_⟩)))))))) λe=>zh (za (zd ⟨d0,d1,hc,hn⟩))
  all_goals have e:=uf e
  ·omega
  ·omega
  ·omega
  ·rw[qo (Z) (Z)]; exact⟨by dsimp only; omega,by dsimp only; omega,dG hc _ _,by simpa using hn⟩
  ·rw[qo (Z) (Z)]; dsimp only; omega
 ·rintro⟨d,c⟩ ⟨d0,d1,hc,hn⟩
  dsimp only at d0 d1 hc hn ⊢
  rw[bg]
  refine za (z8 ⟨hc,Z⟩ ?_)
  rintro _ rfl
  exact zd ⟨d0,d1,zA (wq hc) (zN hn)⟩⟩
theorem zrd{x y:Int}(N:0<=x/\x<4294967296)(hy:0<=y/\y<4294967296):0<=Um .u32 x y/\Um .u32 x y<4294967296:=by
 obtain⟨m,rfl⟩:=zF N.1
 obtain⟨n,rfl⟩:=zF hy.1
 rw[Ji (Z) (Z)]
 have:=Nat.or_lt_two_pow (n:=32) (x:=m) (y:=n) (Z) (Z)
 omega
theorem zrl(x s:Int):0<=fS .u32 x s/\fS .u32 x s<4294967296:=by show 0<=jT _/\jT _<_; rw[sO]; omega
theorem Mn{a:List Int}(h:qi a)(i:Nat):0<=wm a i (zb (.int .u32))/\wm a i (zb (.int .u32))<4294967296:=by
 have:=bV h i
 rw[cB,mT h]; omega
theorem z2w{n:Nat}{l:List Int}(h:n<nv l)(R:qi l):(vf n).length<=l.length:=zA (gS (Nat.le_of_lt h)) (wq R)
theorem z2u{n:Nat}{l:List Int}(R:qi l)(h:n<nv l*2):(vf n).length<=l.length+1:=by
 refine u7.2 ?_
 have:=QW R
 rw[zL]; omega
theorem H4:qi [1]:=kf.2 ⟨Z,wE⟩
instance (a d:List Int):Sp (fO a d) (qi a/\qi d/\a.length+d.length<=100000000) (λr=>r.1.length<=max a.length 2/\(nv d≠0->∃ n,r.2.1=vf n/\n<nv d)):=⟨λ⟨ha,J,R⟩=>by
 unfold fO
 refine z8 ⟨J,Z⟩ ?_
 rintro _ rfl
 refine zg (λe=>zd ⟨M _,λk=>absurd (cr.1 (zJ (by simpa using e))) k⟩) λe => ?_
 have hB:nv d≠0:=λh=>by rw[h,kH]at e; cases e
 refine z8 ⟨ha,Z⟩ λ⟨x,p⟩ N=>z8 ⟨J,Z⟩ λ⟨y,q⟩ hy=>zg (λc => ?_) λc=>zg (λc2 => ?_) λc2 => ?_
 ·obtain⟨rfl,x1⟩:=N (Y.1 c).1
  obtain⟨rfl,y1⟩:=hy (Y.1 c).2
  have m:=Nat.mod_lt (nv a) (Nat.pos_of_ne_zero hB)
  have e4:Int.tmod ((nv a:Nat):Int) ((nv d:Nat):Int)=((nv a % nv d:Nat):Int):=by rw[sI (Z)]; exact(Int.natCast_emod _ _).symm
  rw[e4]
  refine zc (Z) (z8 ⟨by rw[tL]; omega,by rw[tL]; omega⟩ ?_)
  rintro _ rfl
  refine zc (Z) (z8 ⟨Z,Z⟩ ?_)
  rintro _ rfl
  exact zd ⟨zA (show _<=2 from u7.2 (by rw[tL]; omega)) (Nat.le_max_right _ _),λ_=>⟨_,rfl,m⟩⟩
 ·obtain⟨rfl,y1⟩:=hy (Y.1 c2).1
  have y2:=uf (Y.1 c2).2
  refine z8 ⟨ha,Z,Z,y2⟩ λ⟨k,l⟩ ⟨l0,l1,lk⟩=>z8 ⟨l0,Z⟩ ?_
  rintro _ rfl
  exact zd ⟨zA lk (Nat.le_max_left _ _),λ_=>⟨_,rfl,Z⟩⟩
 ·have e5:qj (qj (32*(a.length:Int))-1)=32*(a.length:Int)-1:=by rw[qo (x:=32*(a.length:Int)) (Z) (Z),qo (Z) (Z)]
  rw[e5]
  unfold XZ
  refine zc ⟨Z,Z,Z,Z⟩ (vG (qp) (xe (xv (P:=λr:List Int×List Int=>∃ n,r.1=vf n/\n<nv d/\qi r.2/\r.2.length=a.length) (vx (λs:List Int×Int×List Int=>∃ n,s.1=vf n/\n<nv d /\ -1<=s.2.1/\s.2.1<32*(a.length:Int)/\qi s.2.2/\s.2.2.length=a.length) (λs=>(s.2.1+1).toNat) ⟨0,kH.symm,Z,by dsimp only; omega,by dsimp only; omega,vo _,qp⟩ ?_) ?_)))
  ·rintro⟨_,i,b⟩ ⟨n,rfl,hn,i0,i1,I,hbl⟩
   dsimp only at hn i0 i1 I hbl ⊢
   unfold se
   dsimp only
   have q1:=z2w hn J
   refine zg (λc => ?_) λc=>zh (za (zd ⟨n,rfl,hn,I,hbl⟩))
   have c:=uf c
   have f1:qj (Int.tdiv i 32)=i / 32:=by rw[ZF c,qo (Z) (Z)]
   have f2:0<=xr (Int.tmod i 32):=by rw[tL]; omega
   have f3:qj (i-1)=i-1:=qo (Z) (Z)
   have f4:0<=i / 32/\i / 32<b.length:=Z
   have f5:0<=i / 32/\i / 32<a.length:=Z
   rw[f1,f3]
   refine z8 ⟨xk n,Z⟩ ?_
   rintro _ ⟨m,rfl,hm⟩
   rw[vK]at hm
   have q2:=z2u (n:=m) J (Z)
   refine xe (xv (P:=λr:List Int×List Int=>∃ k,r=(vf k,b)/\k<=m+1) (zc (Z) (qk f5 (zc (Z) (zc f2 (zg (λ_=>z8 ⟨xk m,H4,by simp; omega⟩ ?_) λ_=>zh (za (zd ⟨m,rfl,Z⟩))))))) ?_)
   ·rintro _ ⟨k,rfl,hk⟩
    rw[vK]at hk
    exact zh (za (zd ⟨k,rfl,hk⟩))
   rintro _ ⟨k,rfl,hk⟩
   have q3:=z2u (n:=k) J (Z)
   dsimp only
   refine z8 ⟨xk k,J,Z⟩ ?_
   rintro _ rfl
   rw[vK]
   refine zg (λc => ?_) λc=>zh (za (zd ⟨⟨k,rfl,?_,by dsimp only; omega,by dsimp only; omega,I,hbl⟩,by dsimp only; omega⟩))
   ·have le:nv d<=k:=by
     unfold JS at c
     split at c
     ·cases c
     ·omega
    refine z8 ⟨xk k,J,Z,by rw[vK]; exact le⟩ λ⟨n',o⟩ hn' => ?_
    rw[vK]at hn'
    have f6:0+(i / 32).toNat<b.length:=Z
    refine zc (Z) (zc (Z) (qk f4 (zc ⟨rfl,f6⟩ (zc (Z) (zc f2 (qk f4 (zc ⟨rfl,f6⟩ (vG (qp) (zd ⟨⟨k-nv d,hn',Z,by dsimp only; omega,by dsimp only; omega,?_,by simpa using hbl⟩,by dsimp only; omega⟩)))))))))
    refine Ka I _ ?_ ?_<;>have o:=zrd (Mn I (0+(i / 32).toNat)) (zrl 1 (xr (Int.tmod i 32)))
    ·exact o.1
    ·exact o.2
   ·unfold JS at c
    split at c
    ·assumption
    ·split at c<;>cases c
  ·rintro⟨_,c⟩ ⟨n,rfl,hn,hc,KC⟩
   dsimp only at hc KC ⊢
   rw[bg]
   have q1:=z2w hn J
   refine za (z8 ⟨hc,Z⟩ ?_)
   rintro _ rfl
   refine z8 ⟨xk n,Z⟩ ?_
   rintro _ rfl
   exact zd ⟨zA (wq hc) (Z),λ_=>⟨n,by rw[vK],hn⟩⟩⟩
instance (a b:List Int):Sp (Jr a b) (qi a/\qi b/\a.length+b.length<=50000000) (λr=>qi r/\r.length<=50000000):=⟨λ⟨ha,I,R⟩=>by
 have qa:=wq ha
 have qb:=wq I
 unfold Jr KX
 refine z8 ⟨ha,Z⟩ ?_
 rintro _ rfl
 refine z8 ⟨I,Z⟩ ?_
 rintro _ rfl
 refine xe (xv (vx (Q:=λr:List Int=>qi r/\r.length<=50000000) (λs:List Int×List Int=>∃ A B:Nat,s=(vf A,vf B)/\(vf A).length<=50000000/\(vf B).length<=50000000) (λs=>nv s.2) ⟨_,_,rfl,Z,Z⟩ ?_) λr hr=>zd hr)
 rintro _ ⟨A,B,rfl,hA,hB⟩
 unfold W4
 refine zg (λc => ?_) λc=>zd ⟨xk _,hA⟩
 have hz:B≠0:=λh=>by rw[h,kH]at c; cases c
 refine z8 ⟨xk _,xk _,Z⟩ λ⟨d,e,f⟩ he => ?_
 rw[vK]at he
 obtain⟨n,rfl,hn⟩:=he.2 hz
 exact zd ⟨⟨B,n,rfl,hB,zA (gS (Nat.le_of_lt hn)) hB⟩,by simpa using hn⟩⟩
instance (a:Lf.Rat):Sp (pN a) (rg a/\rl a<=1700) (λr=>r.2.1.length<=50000000/\r.2.2.1.length<=50000000):=⟨λ⟨h,R⟩=>by
 have q1:=wq h.1
 have q2:=wq h.2
 unfold rl at R
 unfold pN
 refine z8 ⟨h.1,Z⟩ ?_
 rintro _ rfl
 refine z8 ⟨h.2,Z⟩ ?_
 rintro _ rfl
 refine zg (λ_=>zd ⟨qp,qp⟩) λ_=>z8 ⟨xk _,xk _,Z⟩ λg hg=>z8 ⟨xk _,hg.1,Z⟩ λ⟨e,x,y⟩ he => ?_
 replace he:=he.1
 refine z8 ⟨xk _,hg.1,Z⟩ λ⟨f,z,u⟩ hf=>zd ?_
 replace hf:=hf.1
 dsimp only at he hf ⊢
 omega⟩
theorem SU{r:Int->T (Int⊕(Unit⊕Bool))}{f:Unit⊕Bool->T Bool}{Q:Bool->Prop}(n:Nat)(hn:n<=1000000000)(h:∀ i:Int,0<=i->i<n->qj (i+1)=i+1->(r i).wp λz=>z=.inl (i+1))(h0:(r n).wp λz=>z=.inr (.inl ()))(k:(f (.inl ())).wp Q):(T.bind (T.loop r 0) f).wp Q:=by
 refine xe (xv (P:=λz=>z=.inl ()) (vx (λi:Int=>0<=i/\i<=n) (λi=>(n-i).toNat) ⟨Z,Z⟩ λi hi => ?_) (by rintro _ rfl; exact k))
 by_cases c:i<n
 ·refine xv (h i hi.1 c (qo (Z) (Z))) ?_
  rintro _ rfl
  exact⟨⟨Z,Z⟩,Z⟩
 ·have:i=n:=Z
  subst this
  refine xv h0 ?_
  rintro _ rfl
  rfl
theorem Oa(a:List Int)(h:a.length<=50000000):(si a a).wp λr=>r=true:=by
 unfold si Vq
 refine xl (qp) (SU a.length (Z) (λi i0 i1 hw => ?_) ?_ (zd rfl))<;>unfold tX
 ·exact wU (decide_eq_true i1) (qk ⟨i0,i1⟩ (qk ⟨i0,i1⟩ (xl (qp) (zd (by rw[hw])))))
 ·exact xl (qp) (zd rfl)
theorem zbU(a:Lf.Rat)(h:rg a/\rl a<=1700):(ZA a a).wp λr=>r=true:=by
 obtain⟨b,h1,X,h3⟩:=T.lC.1 (Sp.sp (t:=pN a) h)
 unfold ZA
 refine xe (gD h1 (xe (gD h1 (wU (qp) (xe (xv (Oa _ X) ?_))))))
 rintro _ rfl
 exact wU rfl (xe (xv (Oa _ h3) λr hr=>zd hr))
theorem z4g(a:List Lf.Rat)(h:rs a):(Zz a a).wp λr=>r=true:=by
 unfold Zz Jv
 refine xl (qp) (SU a.length h.1 (λi i0 i1 hw => ?_) ?_ (zd rfl))<;>unfold QA
 ·refine wU (decide_eq_true i1) (qk ⟨i0,i1⟩ (qk ⟨i0,i1⟩ (xe (xv (zbU _ (h.2 _ (wa i0 i1))) ?_))))
  rintro _ rfl
  exact xl rfl (zd (by rw[hw]))
 ·exact xl (qp) (zd rfl)
theorem zg7(d:zt)(h:Dw d):(sb d d).wp λr=>r=true:=by
 obtain⟨h1,X,h3,h4,h5,h6,-⟩:=h
 unfold sb Vj Vk Vl Vm
 refine xe (xe (xv (z4g _ h1) ?_))
 rintro _ rfl
 refine xl rfl (xe (xv (z4g _ h3) ?_))
 rintro _ rfl
 refine xl rfl (xl (qp) (xl (qp) (xl (qp) (zd (xl (qp) ?_)))))
 refine SU _ X (λi i0 i1 hw => ?_) ?_ (SU _ h4 (λi i0 i1 hw => ?_) ?_ (SU _ h5.1 (λi i0 i1 hw => ?_) ?_ (SU _ h6 (λi i0 i1 hw => ?_) ?_ (zd rfl))))
 ·unfold mW
  exact wU (decide_eq_true i1) (qk ⟨i0,i1⟩ (qk ⟨i0,i1⟩ (xl (qp) (zd (by rw[hw])))))
 ·unfold mW
  exact xl (qp) (zd rfl)
 ·unfold mX
  exact wU (decide_eq_true i1) (qk ⟨i0,i1⟩ (qk ⟨i0,i1⟩ (xl (qp) (zd (by rw[hw])))))
 ·unfold mX
  exact xl (qp) (zd rfl)
 ·unfold mY
  refine wU (decide_eq_true i1) (xe (qk ⟨i0,i1⟩ (qk ⟨i0,i1⟩ (xl (qp) (qk ⟨i0,i1⟩ (qk ⟨i0,i1⟩ (xl (qp) (qk ⟨i0,i1⟩ (qk ⟨i0,i1⟩ (xe (xv (zbU _ (h5.2 _ (wa i0 i1))) ?_)))))))))))
  rintro _ rfl
  exact zd (xl rfl (zd (by rw[hw])))
 ·unfold mY
  exact xl (qp) (zd rfl)
 ·unfold mZ
  exact wU (decide_eq_true i1) (qk ⟨i0,i1⟩ (qk ⟨i0,i1⟩ (xl (qp) (zd (by rw[hw])))))
 ·unfold mZ
  exact xl (qp) (zd rfl)
end Go.AM
namespace Go.AM.Lf
open T PL
theorem z18(e:zq)(h:Dw e.2.1):(ya e).wp λr=>r=(e.2.1,e):=by
 obtain⟨h1,X,h3,h4,h5,h6,-⟩:=h
 unfold ya Db
 refine xl rfl (xe (z8 h1.1 ?_))
 rintro _ rfl
 refine z8 X ?_
 rintro _ rfl
 refine z8 h3.1 ?_
 rintro _ rfl
 refine z8 h4 ?_
 rintro _ rfl
 refine z8 h5.1 ?_
 rintro _ rfl
 refine z8 h6 ?_
 rintro _ rfl
 exact z4R (zd (zd (by simp only[bg])))
theorem ef{α:Type}{l:List α}{k:Nat}(d:α)(h:k<l.length):l.take k++[nth l (k:Int) d]=l.take (k+1):=by
 rw[List.take_succ_eq_append_getElem h,nth,zH,zG,List.getElem?_eq_getElem h]; rfl
theorem RH(d:zt)(h:Ps d.2.2.2.2.1):(dD d).wp λr=>r=d:=by
 have h1:=h.1
 unfold dD XF
 refine zc SP (zc SP (zc rfl (zc rfl (xe (xv (vx (Q:=λr=>r=((([],[],[],[],[],()),(d.1,d.2.1,d.2.2.1,d.2.2.2.1,d.2.2.2.2.2.1,()),[],d.2.2.2.2.1):(List Lf.Rat×List Bool×List Lf.Rat×List Int×List Bool×Unit)×(List Lf.Rat×List Bool×List Lf.Rat×List Int×List Bool×Unit)×List qh×List qh)) (λs=>∃ k:Nat,s=((k:Int),([],[],[],[],[],()),(d.1,d.2.1,d.2.2.1,d.2.2.2.1,d.2.2.2.2.2.1,()),[],d.2.2.2.2.1.take k)/\k<=d.2.2.2.2.1.length) (λs=>(d.2.2.2.2.1.length-s.1).toNat) ⟨0,rfl,M _⟩ ?_) ?_)))))
 ·rintro _ ⟨k,rfl,hk⟩
  have R:(d.2.2.2.2.1.take k).length=k:=by simp; omega
  unfold rS
  dsimp only
  refine zg (λc => ?_) λc=>zh (zh (za (za (zd ?_))))
  ·have c:=uf c
   have hg:=ef (zb zk) (show k<d.2.2.2.2.1.length by omega)
   have Zm:(d.2.2.2.2.1.take (k+1)).length=k+1:=by simp; omega
   rw[hg,R,Zm,qo (Z) (Z)]
   exact qk ⟨Z,c⟩ (vJ (Z) (zh (zc ⟨rfl,rfl,rfl⟩ (za (zc rfl (zd ⟨⟨k+1,rfl,Z⟩,by dsimp only; omega⟩))))))
  ·have c:=yT c
   rw[List.take_of_length_le (Z)]
 ·rintro _ rfl
  exact za (zd (by dsimp only; rw[bg]))
def tu(k:Int):Prop:=6<=k/\k<=8
theorem z2q{l:List Op}{e:zq}(he:Ei e)(hv:∀ i:Int,0<=i->i<l.length->Ov (nth l i (zb gU)))(hk:∀ i:Int,0<=i->i<l.length->tu (nth l i (zb gU)).1):∀ k:Nat,k<=l.length->(Cy l e k).2.1=e.2.1/\(Cy l e k).2.2.1=e.2.2.1
 | 0,_=>⟨rfl,rfl⟩
 | k+1,h=>by
  obtain⟨h1,X⟩:=z2q he hv hk k (Z)
  have h3:=(zcN (z0u he hv k (Z)) (hv k (Z) (Z))).2.2
  have h4:=hk k (Z) (Z)
  generalize (nth l (k:Int) (zb gU)).1=o at h3 h4
  unfold tu at h4
  exact⟨(h3.2.2.2.2 h4.1 h4.2).trans h1,(h3.2.2.2.1 (Z)).trans X⟩
theorem z3H{α:Type}{l:List α}{k:Nat}{i:Int}{d:α}(h0:0<=i)(h:i<(l.take k).length):nth (l.take k) i d=nth l i d:=by
 unfold nth
 rw[zH,zH,List.getElem?_take_of_lt (by simp at h; omega)]
def Ir(n:q9):List Op:=[(6,[],(false,[],[],()),false,()),(7,[],(false,[],[],()),false,()),(8,n,(false,[],[],()),false,()),(7,[],(false,[],[],()),false,())]
theorem four{P:Int->Prop}(h0:P 0)(h1:P 1)(X:P 2)(h3:P 3)(i:Int)(i0:0<=i)(i1:i<4):P i:=by
 have:i=0\/i=1\/i=2\/i=3:=Z
 rcases this with rfl | rfl | rfl | rfl<;>assumption
theorem zcV(hk:yz.run=some true)(f:Form)(l:List Op)(n:q9)(hf:FW KK f)(R:l.length<=KK)(hr:∀ o∈l,rg o.2.2.1):(bG f l n).run=some true:=by
 suffices h:(bG f l n).wp (λr=>r=true) by
  obtain⟨a,h1,X⟩:=T.lC.1 h
  rw[h1,X]
 have K:=z2r hk
 unfold bG
 refine xe (xv (P:=λr=>r=false->FW 8200 f/\okL l 25) (z8 hf λc hc=>zg (λ_=>zd nofun) λe=>z8 R λd J=>zg (λ_=>zd nofun) λe2=>zd λ_=>⟨hc e,J e2⟩) λe he=>zg (λ_=>zd rfl) λe2 => ?_)
 obtain⟨hF,hO⟩:=he e2
 refine z8 hF λz hz => ?_
 rcases z with⟨m,k,g⟩ | ⟨p,k⟩
 ·obtain⟨h0,hE⟩:=hz
  have h0:k=0:=h0
  have hE:Ei g:=hE
  subst h0
  have hm:rV (l.length:Int) 25=((min l.length 25:Nat):Int):=by unfold rV; split<;>omega
  have hc:uI (e:=gU) 0 ((min l.length 25:Nat):Int) l=l.take (min l.length 25):=by simp[uI]
  have hn:(l.take (min l.length 25)).length<=25:=by simp; omega
  have hv:∀ i:Int,0<=i->i<(l.take (min l.length 25)).length->Ov (nth (l.take (min l.length 25)) i (zb gU)):=λi i0 i1=>by
   rw[z3H i0 i1]
   simp at i1
   exact zfM hO hr i0 (Z) (Z)
  dsimp only[zT]
  rw[hm,hc]
  generalize l.take (min l.length 25)=l at *
  refine xl rfl (zc ⟨Z,Z,Z⟩ (xe (xv (z4u l g (Z) hE hv) ?_)))
  rintro _ rfl
  have h1:=z0u hE hv l.length (U _)
  generalize Cy l g l.length=a at *
  refine xe (xv (z18 a h1.1.1) ?_)
  rintro _ rfl
  refine xe (xv (RH a.2.1 h1.1.1.2.2.2.2.1) ?_)
  rintro _ rfl
  refine xe (xv (z1Z a h1.2.1) ?_)
  rintro _ rfl
  have o:∀ k:Int,Ov (k,n,(false,[],[],()),false,()):=λk=>⟨⟨wE,wE⟩,by show max 0 0<=1700; decide⟩
  have o2:∀ k:Int,Ov (k,[],(false,[],[],()),false,()):=λk=>⟨⟨wE,wE⟩,by show max 0 0<=1700; decide⟩
  have t6:tu 6:=⟨xo,xo⟩
  have t7:tu 7:=⟨xo,xo⟩
  have t8:tu 8:=⟨xo,xo⟩
  have h3:=z2q (l:=Ir n) h1 (four (o2 6) (o2 7) (o 8) (o2 7)) (four t6 t7 t8 t7) 4 (U _)
  have h4:=z0u (l:=Ir n) h1 (four (o2 6) (o2 7) (o 8) (o2 7)) 4 (U _)
  refine xe (xv (z4u (Ir n) a (by show 4<=1000; omega) h1 (four (o2 6) (o2 7) (o 8) (o2 7))) ?_)
  rintro _ rfl
  rw[show(Ir n).length=4 from rfl]
  generalize Cy (Ir n) a 4=b at *
  refine xe (xv (z18 b h4.1.1) ?_)
  rintro _ rfl
  refine xe (xv (RH b.2.1 h4.1.1.2.2.2.2.1) ?_)
  rintro _ rfl
  rw[h3.1]
  refine xe (xv (zg7 a.2.1 h1.1.1) ?_)
  rintro _ rfl
  refine wU rfl (xe (xv (z1Z b h4.2.1) ?_))
  rintro _ rfl
  refine za (za (za (za ?_)))
  rw[bg,bg,bg,bg,h3.2]
  refine xe (xv (zn2 a.2.2.1 h1.2.1) ?_)
  rintro _ rfl
  exact wU rfl K
 ·exact wU (by simpa using hz) (wU rfl K)
theorem XE(x:G6 [qz,.sl gU,.str])(hw:wfL [qz,.sl gU,.str] x)(I:bkL [qz,.sl gU,.str] x<=1048576):(bG (N7 [qz,.sl gU,.str] x).1 (N7 [qz,.sl gU,.str] x).2.1 (N7 [qz,.sl gU,.str] x).2.2).run=some true:=by
 have h:=ziN (x.1,x.2.1,()) ⟨hw.1,hw.2.1,trivial⟩ (by have:=I; simp only[bkL]at this ⊢; omega)
 exact zcV z7X x.1 x.2.1 x.2.2.1 h.1 h.2.1 h.2.2
end Go.AM.Lf
