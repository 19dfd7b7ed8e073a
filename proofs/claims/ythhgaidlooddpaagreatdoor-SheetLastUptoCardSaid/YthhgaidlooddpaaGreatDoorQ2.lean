/-
  Plain laws of the lifted program, part 2.
-/
import Derived.Test.YthhgaidlooddpaaGreatDoorLf0
import Derived.Test.YthhgaidlooddpaaGreatDoorAmA
import Derived.Test.YthhgaidlooddpaaGreatDoorAmD
import Derived.Test.YthhgaidlooddpaaGreatDoorQ0
import Derived.Test.YthhgaidlooddpaaGreatDoorQ1
set_option linter.unusedVariables false
open Go.AM.T (G3 fJ mK qz vu z6 z7 z8 zJ za zb zg zj zo)
namespace Go.AM.Lf
open PL
mutual
def fD(deep:Nat)(left:Int):Expr->Bool×Int
 | .mk k n s l=>if left-1<0\/(decide (deep<32)&&vR (.mk k n s l))=false then(false,left-1)else yG (deep+1) (left-1) l
def yG(deep:Nat)(left:Int):List Expr->Bool×Int
 | []=>(true,left)
 | e::r=>if(fD deep left e).1=true then yG deep (fD deep left e).2 r else(false,(fD deep left e).2)
end
mutual
theorem GL:∀ (e:Expr) (d:Nat) (left:Int),0<=left->(fD d left e).1=(xB d e&&decide ((xk e:Int)<=left))/\((fD d left e).1=true->(fD d left e).2=left-xk e)/\(fD d left e).2<=left /\ -1<=(fD d left e).2
 | .mk k n s l,d,left,h=>by
  have e1:xB d (.mk k n s l)=((decide (d<32)&&vR (.mk k n s l))&&ub (d+1) l):=by unfold xB; rw[Bool.and_assoc]
  have e2:xk (.mk k n s l)=1+wz l:=rfl
  unfold fD
  rw[e1,e2]
  by_cases c:left-1<0
  ·rw[if_pos (.inl c)]
   refine⟨?_,λh=>by simp at h,by omega,by dsimp only; omega⟩
   dsimp only
   rw[show decide (((1+wz l:Nat):Int)<=left)=false from decide_eq_false (by omega),Bool.and_false]
  ·cases q:(decide (d<32)&&vR (.mk k n s l))with
   | false=>rw[if_pos (.inr rfl)]; exact⟨rfl,λh=>by simp at h,by dsimp only; omega,by dsimp only; omega⟩
   | true =>
    rw[if_neg (by rintro(h | h); exact c h; simp at h),Bool.true_and]
    obtain⟨h1,h2,h3,h4⟩:=DA l (d+1) (left-1) (by omega)
    refine⟨?_,λh=>by rw[h2 h]; omega,by omega,by omega⟩
    rw[h1]
    congr 1
    exact decide_eq_decide.2 (by omega)
theorem DA:∀ (l:List Expr) (d:Nat) (left:Int),0<=left->(yG d left l).1=(ub d l&&decide ((wz l:Int)<=left))/\((yG d left l).1=true->(yG d left l).2=left-wz l)/\(yG d left l).2<=left /\ -1<=(yG d left l).2
 | [],d,left,h=>by
  refine⟨?_,λ_ => ?_,Int.le_refl _,?_⟩
  ·show true=(true&&decide (((0:Nat):Int)<=left)); simp; omega
  ·show left=left-((0:Nat):Int); omega
  ·show -1<=left; omega
 | e::r,d,left,h=>by
  have e1:ub d (e::r)=(xB d e&&ub d r):=rfl
  have e2:wz (e::r)=xk e+wz r:=rfl
  obtain⟨h1,h2,h3,h4⟩:=GL e d left h
  unfold yG
  rw[e1,e2]
  cases q:(fD d left e).1 with
  | false =>
   rw[if_neg (by simp)]
   refine⟨?_,λh=>by simp at h,h3,h4⟩
   dsimp only
   rw[q]at h1
   cases ho:xB d e with
   | false=>rfl
   | true =>
    rw[ho,Bool.true_and]at h1
    have:=of_decide_eq_false h1.symm
    rw[show decide (((xk e+wz r:Nat):Int)<=left)=false from decide_eq_false (by omega),Bool.and_false]
  | true =>
   rw[if_pos rfl]
   have hq:=h2 q
   rw[q]at h1
   have h1:=h1.symm
   rw[Bool.and_eq_true,decide_eq_true_eq]at h1
   obtain⟨g1,g2,g3,g4⟩:=DA r d (fD d left e).2 (by omega)
   refine⟨?_,λh=>by rw[g2 h]; omega,by omega,by omega⟩
   rw[g1,h1.1,Bool.true_and]
   congr 1
   exact decide_eq_decide.2 (by omega)
end
theorem I4(e:Expr)(deep:Nat)(left:Int)(h:allOk e)(hl:xk e<=1000000)(hl0:0<=left)(fy:left<=100000)(hd:deep<=32):(jy e (deep:Int) left).run=some (fD deep left e):=by
 unfold jy
 refine fJ (λx:Expr×Int×Int=>allOk x.1/\0<=x.2.1/\x.2.1<=32/\xk x.1<=1000000/\0<=x.2.2/\x.2.2<=100000) (λx=>xk x.1) (λx=>fD x.2.1.toNat x.2.2 x.1) (λx hx g hg => ?_) (x:=(e,(deep:Int),left)) ⟨h,by dsimp only; omega,by dsimp only; omega,by dsimp only; omega,by dsimp only; omega,by dsimp only; omega⟩
 obtain⟨e,d,L⟩:=x
 obtain⟨ha,NX,Fb,hn,zhz,hlf⟩:=hx
 dsimp only at ha NX Fb hn zhz hlf
 obtain⟨D,rfl⟩:∃ D:Nat,d=(D:Int):=⟨d.toNat,by omega⟩
 cases e with | mk k n s kids =>
 obtain⟨Ww,Dx⟩:=ha
 have Du:xk (.mk k n s kids)=1+wz kids:=by unfold xk; rfl
 rw[Du]at hn
 have ew:zF (L-1)=L-1:=zA (by omega) (by omega)
 have Pn:=Jx (.mk k n s kids) Ww
 simp only[Int.toNat_natCast]
 unfold gJ
 rw[ew]
 have head:((.ite (decide ((L-1)<(0:Int))) (.ret (true,L-1)) (.ite (decide ((32:Int)<=(D:Int))) (.ret (true,L-1)) (T.bind (yP (.mk k n s kids)) λr=>.ret ((!r),L-1)))):T (Bool×Int)).run =
   some (decide (L-1<0\/(decide (D<32)&&vR (.mk k n s kids))=false),L-1):=by
  by_cases c0:L-1<0
  ·rw[za (decide_eq_true c0),z7,decide_eq_true (.inl c0)]
  ·rw[z8 (decide_eq_false c0)]
   by_cases c:D<32
   ·rw[z8 (decide_eq_false (by omega)),z6 Pn,z7,decide_eq_true c,Bool.true_and]
    cases vR (.mk k n s kids)<;>simp[c0]
   ·rw[za (decide_eq_true (by omega)),z7,decide_eq_false c,Bool.false_and]
    simp
 rw[z6 head]
 dsimp only
 unfold fD
 by_cases q:L-1<0\/(decide (D<32)&&vR (.mk k n s kids))=false
 ·rw[za (decide_eq_true q),z7,if_pos q]
 ·rw[z8 (decide_eq_false q),if_neg q]
  have q1:¬ L-1<0:=λh=>q (.inl h)
  have hD:D<32:=by
   by_cases c:D<32
   ·exact c
   ·exact absurd (.inr (by rw[decide_eq_false c]; rfl)) q
  have ed:zF ((D:Int)+1)=((D+1:Nat):Int):=by rw[zA (by omega) (by omega)]; omega
  have loop:∃ z,(zP (λy0 y1 y2=>g (y0,y1,y2)) kids (kids.length:Int) (((D:Int),()),((0:Int),L-1))).run=some z /\
    (((yG (D+1) (L-1) kids).1=true/\z=.inl (yG (D+1) (L-1) kids).2)\/((yG (D+1) (L-1) kids).1=false/\∃ i:Int,0<=i/\z=.inr (i,(yG (D+1) (L-1) kids).2))):=by
   refine T.qI (r:=zB (λy0 y1 y2=>g (y0,y1,y2)) kids (kids.length:Int)) (λst:(Int×Unit)×Int×Int=>∃ (j:Nat) (B:Int),st=(((D:Int),()),(j:Int),B)/\j<=kids.length/\0<=B/\B<=100000 /\
    yG (D+1) B (kids.drop j)=yG (D+1) (L-1) kids) (λst=>kids.length-st.2.1.toNat) _ (λst xK => ?_) ⟨0,L-1,rfl,by omega,by omega,by omega,by rw[List.drop_zero]⟩
   obtain⟨j,B,rfl,hj,hB0,hB,Ha⟩:=xK
   by_cases c:j<kids.length
   ·have hdr:kids.drop j=kids[j]::kids.drop (j+1):=List.drop_eq_getElem_cons c
    rw[hdr]at Ha
    rw[show yG (D+1) B (kids[j]::kids.drop (j+1))=if(fD (D+1) B kids[j]).1=true then yG (D+1) (fD (D+1) B kids[j]).2 (kids.drop (j+1))else(false,(fD (D+1) B kids[j]).2)from rfl]at Ha
    have Q9:=eH Dx _ (List.getElem_mem c)
    have O8:=GL kids[j] (D+1) B hB0
    have FN:xk kids[j]<1+wz kids:=by have:=lQ (List.getElem_mem c); omega
    have WB:=hg (kids[j],((D+1:Nat):Int),B) ⟨Q9,by dsimp only; omega,by dsimp only; omega,by dsimp only; omega,by dsimp only; omega,by dsimp only; omega⟩ (by dsimp only; rw[Du]; exact FN)
    dsimp only at WB
    simp only[Int.toNat_natCast]at WB
    have hf:(j6 (λy0 y1 y2=>g (y0,y1,y2)) kids[j] (D:Int) B).run=some (!(fD (D+1) B kids[j]).1,(fD (D+1) B kids[j]).2):=by
     unfold j6
     rw[ed,z6 WB]; rfl
    unfold zB
    dsimp only
    rw[za (uN c),zb (qf c),kO c,z6 hf]
    dsimp only
    cases hk:(fD (D+1) B kids[j]).1 with
    | true =>
     left
     rw[hk,if_pos rfl]at Ha
     rw[z8 (by rfl),z7]
     have hlen:=oN kids
     rw[iU j _ c (by omega)]
     have hb:=O8.1
     rw[hk]at hb
     have hb:=hb.symm
     rw[Bool.and_eq_true,decide_eq_true_eq]at hb
     have h2:=O8.2.1 hk
     refine⟨_,rfl,⟨j+1,(fD (D+1) B kids[j]).2,rfl,c,by omega,by omega,Ha⟩,?_⟩
     simp only[Int.toNat_natCast]
     omega
    | false =>
     right
     rw[hk,if_neg (by simp)]at Ha
     rw[za (by rfl),z7]
     exact⟨_,rfl,.inr ⟨by rw[<- Ha],(j:Int),by omega,by rw[<- Ha]⟩⟩
   ·right
    have hj2:j=kids.length:=by omega
    subst hj2
    rw[List.drop_length]at Ha
    unfold zB
    dsimp only
    rw[z8 (kl _),z7]
    exact⟨_,rfl,.inl ⟨by rw[<- Ha]; rfl,by rw[<- Ha]; rfl⟩⟩
  obtain⟨z,hz,hc⟩:=loop
  have hcf:(q7 (λy0 y1 y2=>g (y0,y1,y2)) kids ((D:Int),()) (L-1)).run=some (!(yG (D+1) (L-1) kids).1,(yG (D+1) (L-1) kids).2):=by
   unfold q7 qD
   rcases hc with⟨ho,rfl⟩ | ⟨ho,i,hi,rfl⟩
   ·have:((T.bind (zP (λy0 y1 y2=>g (y0,y1,y2)) kids (kids.length:Int) (((D:Int),()),((0:Int),L-1)))<|Sum.elim (λv2=>.ret ((-1:Int),v2)) (λ(x2,v3)=>.ret (x2,v3))):T (Int×Int)).run=some (-1,(yG (D+1) (L-1) kids).2):=by
     rw[z6 hz]; rfl
    rw[z6 this,ho]; rfl
   ·have:((T.bind (zP (λy0 y1 y2=>g (y0,y1,y2)) kids (kids.length:Int) (((D:Int),()),((0:Int),L-1)))<|Sum.elim (λv2=>.ret ((-1:Int),v2)) (λ(x2,v3)=>.ret (x2,v3))):T (Int×Int)).run=some (i,(yG (D+1) (L-1) kids).2):=by
     rw[z6 hz]; rfl
    rw[z6 this,ho,z7,decide_eq_true hi]; rfl
  rw[show Expr.kids (.mk k n s kids)=kids from rfl,z6 hcf]
  dsimp only
  rw[z7,Bool.not_not]
def Gb(e:Expr):Bool:=xB 0 e&&decide (xk e<=256)
theorem O6(e:Expr)(h:allOk e)(hn:xk e<=1000000):(uA e).run=some (Gb e):=by
 unfold uA Gb
 have:=I4 e 0 256 h hn (by omega) (by omega) (by omega)
 have this:(jy e 0 256).run=some (fD 0 256 e):=this
 rw[z6 this,z7,(GL e 0 256 (by omega)).1]
 congr 2
 exact decide_eq_decide.2 (by omega)
def kP(e:Expr):Prop:=allOk e/\bkE e<=300*xk e
def PR.cj(N:Nat):PR->Prop
 | .ok e r _=>kP e/\xk e+r.length<=N
 | _=>True
theorem QM(e:Expr):1<=xk e:=by cases e; unfold xk; omega
theorem j8:uK zQ:=⟨bA,bA,by show(0:Nat)<=100; omega,by show(0:Nat)<=100; omega⟩
theorem dF(k:Int)(n:Rat)(s:ze)(hn:uK n)(hs:s.length<=24):kP (.mk k n s []):=by
 refine⟨⟨hn,trivial⟩,?_⟩
 have h3:=hn.2.2.1
 have h4:=hn.2.2.2
 show 1+((1+((List.length n.2.1+1)+((List.length n.2.2.1+1)+1)))+((List.length s+1)+((0+1)+1)))<=300*(1+0)
 omega
theorem UQ(k:Int){a:Expr}(h:kP a):kP (bc k [a]):=by
 refine⟨⟨j8,h.1,trivial⟩,?_⟩
 show 1+((1+((0+1)+((0+1)+1)))+((0+1)+(((bkE a+0)+1)+1)))<=300*(1+(xk a+0))
 have:=h.2
 omega
theorem J7(k:Int){a b:Expr}(h:kP a)(h2:kP b):kP (bc k [a,b]):=by
 refine⟨⟨j8,h.1,h2.1,trivial⟩,?_⟩
 show 1+((1+((0+1)+((0+1)+1)))+((0+1)+(((bkE a+(bkE b+0))+1)+1)))<=300*(1+(xk a+(xk b+0)))
 have:=h.2
 have:=h2.2
 omega
theorem nd1(k:Int)(a:Expr):xk (bc k [a])=1+xk a:=rfl
theorem nd2(k:Int)(a b:Expr):xk (bc k [a,b])=1+(xk a+xk b):=rfl
theorem PR.s6{N:Nat}{R:PR}{f:Expr->ze->Bool->PR}{M:Nat}(h:R.cj M)(hf:∀ e r l,kP e->xk e+r.length<=M->(f e r l).cj N):(R.bind f).cj N:=by
 cases R with
 | no=>trivial
 | er=>trivial
 | ok e r l=>exact hf e r l h.1 h.2
theorem z2o(t:ze)(ht:t.length<=400):uK (fB t):=by
 unfold fB
 split
 ·rename_i n d h
  have:=Xz (List.isPrefixOf [45] t) ht h
  exact⟨this.1,this.2.1,by have:=this.2.2.1; omega,by have:=this.2.2.2; omega⟩
 ·exact j8
theorem QY{z:Rat}(hz:uK z)(t r:ze)(l:Bool)(N:Nat)(h:r.length+1<=N):(Xr z t r l).cj N:=by
 unfold Xr
 split
 ·exact⟨dF 1 z [] hz (by simp),by show 1+0+r.length<=N; omega⟩
 ·exact⟨dF 1 _ [] (z2o t (by omega)) (by simp),by show 1+0+r.length<=N; omega⟩
theorem Nu{z:Rat}(hz:uK z)(d:Nat)(c:UInt8)(r:ze)(l:Bool)(hc:uO c=true):(tK z d (c::r) l).cj (c::r).length:=by
 have hd:(c::r).dropWhile uO=r.dropWhile uO:=by rw[List.dropWhile_cons_of_pos hc]
 have hl:=(lp uO r).length_le
 unfold tK
 rw[hd]
 split
 ·exact QY hz _ _ _ _ (by simp)
 ·rename_i c' q e
  rw[e]at hl
  split
  ·split
   ·trivial
   ·have:=(lp uO q).length_le
    simp only[List.length_cons]at hl
    exact QY hz _ _ _ _ (by simp only[List.length_cons]; omega)
  ·exact QY hz _ _ _ _ (by simp only[List.length_cons]at hl ⊢; omega)
theorem Df(p:UInt8->Bool):∀ (n:Nat) (r:ze),(ga p n r).1.length<=n
 | 0,_=>by unfold ga; simp
 | _+1,[]=>by unfold ga; simp
 | n+1,c::r=>by
  have:=Df p n r
  unfold ga
  split
  ·simp only[List.length_cons]; omega
  ·simp
theorem EL{c:UInt8}(h:XG c=true):wW c=true:=by unfold wW; rw[h]; rfl
theorem NI(c:UInt8)(r:ze)(l:Bool)(hc:XG c=true):(E4 (c::r) l).cj (c::r).length:=by
 have h1:=Df wW 24 (c::r)
 have h2:=congrArg List.length (Q1 wW 24 (c::r))
 have h3:(ga wW 24 (c::r)).1=c::(ga wW 23 r).1:=by
  show(if wW c=true then(c::(ga wW 23 r).1,(ga wW 23 r).2)else([],c::r)).1=_
  rw[if_pos (EL hc)]
 rw[List.length_append,h3]at h2
 refine⟨dF 2 zQ _ j8 h1,?_⟩
 show 1+0+(ga wW 24 (c::r)).2.length<=_
 simp only[List.length_cons]at h2 ⊢
 omega
theorem QZ{m r q:ze}{c:UInt8}(h:xT m r=some (c,q)):q.length+1<=r.length:=by
 have:=(lr h).1.length_le
 simpa using this
theorem Gj{K:Bool->ze->PR}(hK:∀ l q,(K l q).cj q.length)(m1 m2:UInt8)(k1 k2:Int):∀ (n:Nat) (e:Expr) (r:ze) (l:Bool) (N:Nat),kP e->xk e+r.length<=N->(yD K m1 m2 k1 k2 n e r l).cj N
 | 0,_,_,_,_,_,_=>trivial
 | n+1,e,r,l,N,he,hN=>by
  unfold yD
  split
  ·exact⟨he,by have:=HJ r; omega⟩
  ·rename_i c q ht
   have hq:=QZ ht
   refine PR.s6 (hK l q) λe2 q2 l2 h1 h2 => ?_
   refine Gj hK m1 m2 k1 k2 n _ q2 l2 N (J7 _ he h1) ?_
   rw[nd2]
   omega
theorem G1{K:Bool->ze->PR}(hK:∀ l q,(K l q).cj q.length)(m1 m2:UInt8)(k1 k2:Int)(n:Nat)(l:Bool)(r:ze):(rowP K m1 m2 k1 k2 n l r).cj r.length :=
 PR.s6 (hK l r) λe q l' h1 h2=>Gj hK m1 m2 k1 k2 n e q l' _ h1 h2
theorem OB{z:Rat}(hz:uK z){F S:Nat->Bool->ze->PR}(hF:∀ d l q,(F d l q).cj q.length)(hS:∀ d l q,(S d l q).cj q.length)(d:Nat)(l:Bool)(r:ze):(iY z F S d l r).cj r.length:=by
 have hk:=HJ r
 unfold iY
 split
 ·trivial
 ·rename_i c q e
  rw[e]at hk
  simp only[List.length_cons]at hk
  split
  ·split
   ·trivial
   ·refine PR.s6 (hF _ _ _) λe2 r2 l2 h1 h2=>⟨UQ 7 h1,?_⟩
    rw[nd1]; omega
  ·split
   ·split
    ·trivial
    ·refine PR.s6 (hS _ _ _) λe2 r2 l2 h1 h2 => ?_
     split
     ·rename_i ht
      have:=QZ ht
      exact⟨h1,by omega⟩
     ·trivial
   ·split
    ·rename_i hc
     have:=Nu hz d c q l hc
     cases w:tK z d (c::q) l with
     | no=>trivial
     | er=>trivial
     | ok e2 r2 l2=>rw[w]at this; exact⟨this.1,by have:=this.2; simp only[List.length_cons]at this; omega⟩
    ·split
     ·rename_i hc
      have:=NI c q l hc
      exact⟨this.1,by have:=this.2; simp only[List.length_cons]at this; omega⟩
     ·trivial
theorem Hi{z:Rat}(hz:uK z):∀ (n:Nat),(∀ d l r,(pF z n d l r).cj r.length)/\(∀ d l r,(pP z n d l r).cj r.length)/\(∀ d l r,(pS z n d l r).cj r.length)
 | 0=>⟨λ_ _ _=>by unfold pF; trivial,λ_ _ _=>by unfold pP; trivial,λ_ _ _=>by unfold pS; trivial⟩
 | n+1=>by
  obtain⟨h1,h2,h3⟩:=Hi hz n
  refine⟨λd l r => ?_,λd l r => ?_,λd l r => ?_⟩
  ·unfold pF; exact OB hz h1 h3 d l r
  ·unfold pP; exact G1 (h1 d) _ _ _ _ n l r
  ·unfold pS; exact G1 (h2 d) _ _ _ _ n l r
theorem PR.Vh{R:PR}{f:Expr->ze->Bool->PR}{M:Nat}(h:R≠.no)(hg:R.cj M)(hf:∀ e r l,kP e->xk e+r.length<=M->f e r l≠.no):R.bind f≠.no:=by
 cases R with
 | no=>exact absurd rfl h
 | er=>intro h; cases h
 | ok e r l=>exact hf e r l hg.1 hg.2
theorem DG{K:Bool->ze->PR}(hK:∀ l q,(K l q).cj q.length)(m1 m2:UInt8)(k1 k2:Int):∀ (n:Nat) (e:Expr) (r:ze) (l:Bool),(∀ l q,q.length<=r.length->K l q≠.no)->r.length+1<=n->yD K m1 m2 k1 k2 n e r l≠.no
 | 0,_,_,_,_,h=>by omega
 | n+1,e,r,l,hT,h=>by
  unfold yD
  split
  ·intro h; cases h
  ·rename_i c q ht
   have hq:=QZ ht
   refine PR.Vh (hT l q (by omega)) (hK l q) λe2 q2 l2 h1 h2 => ?_
   have:=QM e2
   exact DG hK m1 m2 k1 k2 n _ q2 l2 (λl q3 h3=>hT l q3 (by omega)) (by omega)
theorem Dl{K:Bool->ze->PR}(hK:∀ l q,(K l q).cj q.length)(m1 m2:UInt8)(k1 k2:Int)(n:Nat)(l:Bool)(r:ze)(hT:∀ l q,q.length<=r.length->K l q≠.no)(h:r.length<=n):rowP K m1 m2 k1 k2 n l r≠.no:=by
 refine PR.Vh (hT l r (Nat.le_refl _)) (hK l r) λe q l' h1 h2 => ?_
 have:=QM e
 exact DG hK m1 m2 k1 k2 n e q l' (λl q3 h3=>hT l q3 (by omega)) (by omega)
theorem BM(z:Rat)(d:Nat)(r:ze)(l:Bool):tK z d r l≠.no:=by
 have fin:∀ t q,Xr z t q l≠.no:=λt q=>by unfold Xr; split<;>(intro h; cases h)
 unfold tK
 split
 ·exact fin _ _
 ·split
  ·split
   ·intro h; cases h
   ·exact fin _ _
  ·exact fin _ _
theorem S7{z:Rat}(hz:uK z):∀ (n:Nat),(∀ d l r,3*r.length+1<=n->pF z n d l r≠.no)/\(∀ d l r,3*r.length+2<=n->pP z n d l r≠.no)/\(∀ d l r,3*r.length+3<=n->pS z n d l r≠.no)
 | 0=>⟨λ_ _ _ h=>by omega,λ_ _ _ h=>by omega,λ_ _ _ h=>by omega⟩
 | n+1=>by
  obtain⟨h1,h2,h3⟩:=S7 hz n
  obtain⟨g1,g2,g3⟩:=Hi hz n
  refine⟨λd l r h => ?_,λd l r h => ?_,λd l r h => ?_⟩
  ·unfold pF
   have hk:=HJ r
   unfold iY
   split
   ·intro h; cases h
   ·rename_i c q e
    rw[e]at hk
    simp only[List.length_cons]at hk
    split
    ·split
     ·intro h; cases h
     ·exact PR.Vh (h1 _ _ _ (by omega)) (g1 _ _ _) λ_ _ _ _ _=>by intro h; cases h
    ·split
     ·split
      ·intro h; cases h
      ·refine PR.Vh (h3 _ _ _ (by omega)) (g3 _ _ _) λ_ _ _ _ _ => ?_
       split<;>(intro h; cases h)
     ·split
      ·exact BM z d _ l
      ·split<;>(intro h; cases h)
  ·unfold pP
   exact Dl (g1 d) _ _ _ _ n l r (λl q hq=>h1 d l q (by omega)) (by omega)
  ·unfold pS
   exact Dl (g2 d) _ _ _ _ n l r (λl q hq=>h2 d l q (by omega)) (by omega)
theorem F2(s:ze)(hs:s.length<=1000000)(ST:KT)(N:Nat)(hS:∀ m,m<=N->∀ d l r,d<=31->r <:+ s->pS zQ m d l r≠.no->(ST (qB s r d l)).run=encR s d (pS zQ m d l r))
  (n:Nat) (hn:n<=N+1) (d:Nat) (l:Bool) (r:ze) (hd:d<=31) (h:r <:+ s) (kK:pF zQ n d l r≠.no):(xm ST (qB s r d l)).run=encR s d (pF zQ n d l r):=by
 unfold xm
 obtain⟨y,hy⟩:∃ y,encR s d (pF zQ n d l r)=some y:=by
  cases q:pF zQ n d l r with
  | no=>exact absurd q kK
  | er=>exact⟨_,rfl⟩
  | ok=>exact⟨_,rfl⟩
 rw[hy]
 refine T.LH (λn x y=>n<=N+1/\∃ d l r,d<=31/\r <:+ s/\x=qB s r d l/\pF zQ n d l r≠.no/\encR s d (pF zQ n d l r)=some y) (λx y => ?_) (λn x y hx g hg => ?_) (n:=n) ⟨hn,d,l,r,hd,h,rfl,kK,hy⟩
 ·rintro⟨_,d,l,r,_,_,_,h,_⟩
  exact h (by unfold pF; rfl)
 ·obtain⟨hn,d,l,r,hd,h,rfl,kK,hy⟩:=hx
  rw[<- hy]
  unfold pF at kK ⊢
  have hgF:∀ d l r,d<=31->r <:+ s->pF zQ n d l r≠.no->(g (qB s r d l)).run=encR s d (pF zQ n d l r):=by
   intro d l r hd h kK
   obtain⟨y,hy⟩:∃ y,encR s d (pF zQ n d l r)=some y:=by
    cases q:pF zQ n d l r with
    | no=>exact absurd q kK
    | er=>exact⟨_,rfl⟩
    | ok=>exact⟨_,rfl⟩
   rw[hy]
   exact hg _ _ ⟨by omega,d,l,r,hd,h,rfl,kK,hy⟩
  exact CK s hs (λy0=>g y0) ST (pF zQ n) (pS zQ n) hgF (hS n (by omega)) ((Um zQ s n).2.2) d l r hd h kK
theorem Hn(ST:KT)(m:ze)(k:vY)(p:zc):xA ST () m k p=z2T (xm ST) m k p:=rfl
theorem K7(ST:KT)(m:ze)(k:vY)(p:zc):xv ST () m k p=z2T (xa ST) m k p:=rfl
theorem CA{t:T ((AM.Expr×zc)⊕(vY×zc))}{o:Option ((AM.Expr×zc)⊕(vY×zc))}(h:t.run=o)(ho:o≠none):(T.bind t<|Sum.elim (λ(r,p1)=>.ret (.inl (r,p1))) (λ(pv,p2)=>.ret (.inr (pv,p2))):T ((AM.Expr×zc)⊕(vY×zc))).run=o:=by
 cases o with
 | none=>exact absurd rfl ho
 | some x=>rw[z6 h]; cases x<;>rfl
theorem BK{s:ze}{d:Nat}{R:PR}(h:R≠.no):encR s d R≠none:=by
 cases R with
 | no=>exact absurd rfl h
 | er=>intro h; cases h
 | ok=>intro h; cases h
theorem DM(s:ze)(hs:s.length<=1000000)(ST:KT)(N:Nat)(hS:∀ m,m<=N->∀ d l r,d<=31->r <:+ s->pS zQ m d l r≠.no->(ST (qB s r d l)).run=encR s d (pS zQ m d l r))
  (n:Nat) (hn:n<=N+1) (d:Nat) (l:Bool) (r:ze) (hd:d<=31) (h:r <:+ s) (kK:pP zQ n d l r≠.no):(xa ST (qB s r d l)).run=encR s d (pP zQ n d l r):=by
 cases n with
 | zero=>exact absurd (by unfold pP; rfl) kK
 | succ n =>
  unfold pP at kK ⊢
  unfold xa
  refine CA ?_ (BK kK)
  rw[Hn]
  exact CY s hs d (xm ST) (pF zQ n d) (λl r h kK=>F2 s hs ST N hS n (by omega) d l r hd h kK) ((Um zQ s n).1 d) 42 47 (by decide) (by decide) 5 6 n l r h kK
theorem z3e(s:ze)(hs:s.length<=1000000)(n:Nat)(d:Nat)(l:Bool)(r:ze)(hd:d<=31)(h:r <:+ s)(kK:pS zQ n d l r≠.no):(ud (qB s r d l)).run=encR s d (pS zQ n d l r):=by
 have cS:∀ (n d:Nat) (l:Bool) (r:ze),pS zQ n d l r≠.no->∃ y,encR s d (pS zQ n d l r)=some y:=by
  intro n d l r kK
  cases q:pS zQ n d l r with
  | no=>exact absurd q kK
  | er=>exact⟨_,rfl⟩
  | ok=>exact⟨_,rfl⟩
 unfold ud
 obtain⟨y,hy⟩:=cS n d l r kK
 rw[hy]
 refine T.LH (λn x y=>∃ m,m<=n/\∃ d l r,d<=31/\r <:+ s/\x=qB s r d l/\pS zQ m d l r≠.no/\encR s d (pS zQ m d l r)=some y) (λx y => ?_) (λn x y hx g hg => ?_) (n:=n) ⟨n,Nat.le_refl _,d,l,r,hd,h,rfl,kK,hy⟩
 ·rintro⟨m,hm,d,l,r,_,_,_,h,_⟩
  have:m=0:=by omega
  subst this
  exact h (by unfold pS; rfl)
 ·obtain⟨m,hm,d,l,r,hd,h,rfl,kK,hy⟩:=hx
  rw[<- hy]
  cases m with
  | zero=>exact absurd (by unfold pS; rfl) kK
  | succ m =>
   have hg2:∀ k,k<=m->∀ d l r,d<=31->r <:+ s->pS zQ k d l r≠.no->(g (qB s r d l)).run=encR s d (pS zQ k d l r):=by
    intro k hk d l r hd h kK
    obtain⟨y,hy⟩:=cS k d l r kK
    rw[hy]
    exact hg _ _ ⟨k,by omega,d,l,r,hd,h,rfl,kK,hy⟩
   unfold pS at kK ⊢
   unfold uz
   refine CA ?_ (BK kK)
   rw[K7]
   exact CY s hs d (xa λy0=>g y0) (pP zQ m d) (λl r h kK=>DM s hs (λy0=>g y0) m hg2 m (by omega) d l r hd h kK) ((Um zQ s m).2.1 d) 43 45 (by decide) (by decide) 3 4 m l r h kK
def oo(s:ze):PR->Expr×Int×Int×Bool
 | .no=>(zE,0,0,false)
 | .er k b _ _ l=>(zE,((vB s b:Nat):Int),k,l)
 | .ok e [] l=>(e,0,0,l)
 | .ok _ (c::r) l=>(zE,((vB s (c::r):Nat):Int),2,l)
def mg(z:Rat)(s:ze):PR:=pS z (3*s.length+3) 0 false s
theorem M3{z:Rat}(hz:uK z)(s:ze):mg z s≠.no:=(S7 hz _).2.2 0 false s (Nat.le_refl _)
theorem TT(z:Rat)(s:ze):(mg z s).YS s:=(Um z s _).2.2 0 false s (List.suffix_refl s)
theorem Yl{z:Rat}(hz:uK z)(s:ze):(mg z s).cj s.length:=(Hi hz _).2.2 0 false s
theorem Fj(s:ze)(hs:s.length<=1000000):∃ p,(jq (s,((0:Int),((0:Int),(false,()))))).run=some ((oo s (mg zQ s)).1,((oo s (mg zQ s)).2.1,((oo s (mg zQ s)).2.2.1,p)))/\p.2.2.2.1=(oo s (mg zQ s)).2.2.2:=by
 have kK:=M3 j8 s
 have hsf:=TT zQ s
 have hr:=z3e s hs (3*s.length+3) 0 false s (by omega) (List.suffix_refl s) kK
 have e0:qB s s 0 false=(s,((0:Int),((0:Int),(false,())))):=by unfold qB; rw[Og]; rfl
 rw[e0]at hr
 have hr:(ud (s,((0:Int),((0:Int),(false,()))))).run=encR s 0 (mg zQ s):=hr
 unfold jq
 cases q:mg zQ s with
 | no=>exact absurd q kK
 | er k b r d l =>
  rw[q]at hr
  refine⟨qB s r d l,?_,rfl⟩
  rw[z6 hr,Sum.elim_inr]
  rfl
 | ok e r l =>
  rw[q]at hr hsf
  cases r with
  | nil =>
   refine⟨qB s [] 0 l,?_,rfl⟩
   rw[z6 hr,Sum.elim_inl]
   dsimp only
   rw[vT,wV,VC,zg]
   rfl
  | cons c r =>
   refine⟨qB s (c::r) 0 l,?_,rfl⟩
   rw[z6 hr,Sum.elim_inl]
   dsimp only
   rw[vT,wV,Ze hsf,zj]
   rfl
def CR(s:ze)(R:PR):Expr×Int×Int :=
 if(oo s R).2.2.1≠0 then(zE,((oo s R).2.1,(oo s R).2.2.1))
 else if(oo s R).2.2.2=true\/Gb (oo s R).1=false then(zE,((0:Int),(3:Int)))
 else((oo s R).1,((0:Int),(0:Int)))
def qy(s:ze):Expr×Int×Int:=CR s (mg zQ s)
theorem WW:kP zE:=dF 0 zQ [] j8 (by simp)
theorem YE{s:ze}{R:PR}{N:Nat}(h:R.cj N)(h1:1<=N):kP (oo s R).1/\xk (oo s R).1<=N:=by
 have hz:kP zE/\xk zE<=N:=⟨WW,h1⟩
 cases R with
 | no=>exact hz
 | er=>exact hz
 | ok e r l =>
  cases r with
  | nil=>exact⟨h.1,by have:=h.2; show xk e<=N; omega⟩
  | cons=>exact hz
theorem Yq(s:ze)(hs:s.length<=900000):(jz s).run=some (qy s):=by
 obtain⟨p,h1,h2⟩:=Fj s (by omega)
 have hg:=YE (s:=s) (R:=mg zQ s) (N:=s.length+1) (by
  have:=Yl j8 s
  cases q:mg zQ s with
  | no=>trivial
  | er=>trivial
  | ok e r l=>rw[q]at this; exact⟨this.1,by have:=this.2; omega⟩) (by omega)
 unfold qy CR
 generalize oo s (mg zQ s)=w at h1 h2 hg ⊢
 obtain⟨e,at_,x,l⟩:=w
 dsimp only at h1 h2 hg ⊢
 unfold jz
 rw[z6 h1]
 dsimp only
 by_cases c:x≠0
 ·rw[za (by simpa using c),z7,if_pos c]
 ·rw[z8 (by simpa using c),if_neg c,h2]
  have hI:=O6 e hg.1.1 (by omega)
  rw[z6 (a:=(decide (l=true\/Gb e=false),(zE,(p,e))))]
  ·dsimp only
   by_cases c2:l=true\/Gb e=false
   ·rw[za (decide_eq_true c2),z7,if_pos c2]
   ·rw[z8 (decide_eq_false c2),z7,if_neg c2]
  ·cases l with
   | true=>rw[zj,z7]; simp
   | false =>
    rw[zg,z6 hI,z7]
    cases Gb e<;>simp
inductive QR where
 | no
 | er (k:Int) (bad:ze) (x:Expr) (r:ze) (d:Nat) (l:Bool)
 | ok (e:Expr) (r:ze) (l:Bool)
def QR.YS(s:ze)(d:Nat):QR->Prop
 | .no=>True
 | .er k b _ r d' _=>k≠0/\b <:+ s/\r <:+ s/\d<=d'/\d'<=1000
 | .ok _ r _=>r <:+ s
def cx(a b:Rat):Bool:=((norm a).1==(norm b).1)&&(((norm a).2.1==(norm b).2.1)&&((norm a).2.2.1==(norm b).2.2.1))
theorem rK{a b:Rat}:cx a b=true↔norm a=norm b:=by
 unfold cx
 rw[Bool.and_eq_true,Bool.and_eq_true,beq_iff_eq,beq_iff_eq,beq_iff_eq]
 constructor
 ·rintro⟨h1,h2,h3⟩
  exact Prod.ext h1 (Prod.ext h2 (Prod.ext h3 rfl))
 ·intro h; rw[h]; exact⟨rfl,rfl,rfl⟩
mutual
def sameE:Expr->Expr->Bool
 | .mk k n s l,.mk k' n' s' l'=>(k==k')&&(zh s s'&&(cx n n'&&sameEs l l'))
def sameEs:List Expr->List Expr->Bool
 | [],[]=>true
 | a::r,b::r'=>sameE a b&&sameEs r r'
 | [],_::_=>false
 | _::_,[]=>false
end
theorem VE:∀ (a b:List Expr),a.length≠b.length->sameEs a b=false
 | [],[],h=>absurd rfl h
 | _::r,_::r',h=>by
  show(sameE _ _&&sameEs r r')=false
  rw[VE r r' (λe=>h (by simp[e])),Bool.and_false]
 | [],_::_,_=>rfl
 | _::_,[],_=>rfl
theorem nC(s:ze):zh s s=true:=by rw[xP]; simp
mutual
theorem yv:∀ (e:Expr),sameE e e=true
 | .mk k n s l=>by
  show((k==k)&&(zh s s&&(cx n n&&sameEs l l)))=true
  rw[nC,rK.2 rfl,W8 l]; simp
theorem W8:∀ (l:List Expr),sameEs l l=true
 | []=>rfl
 | a::r=>by
  show(sameE a a&&sameEs r r)=true
  rw[yv a,W8 r]; rfl
end
theorem Sf(R:Int->T (Int⊕(Unit⊕Bool)))(a b:List Expr)(hl:a.length=b.length)
  (step:∀ k (h:k<a.length) (h':k<b.length),(R (k:Int)).run=some (if sameE a[k] b[k]=true then .inl ((k+1:Nat):Int)else .inr (.inr false)))
  (done:(R (a.length:Int)).run=some (.inr (.inl ()))):(T.loop R 0).run=some (if sameEs a b=true then .inl ()else .inr false):=by
 have key:∀ (m k:Nat),k+m=a.length->(T.loop R (k:Int)).run=some (if sameEs (a.drop k) (b.drop k)=true then .inl ()else .inr false):=by
  intro m
  induction m with
  | zero =>
   intro k hk
   have:k=a.length:=by omega
   subst this
   rw[List.drop_length,hl,List.drop_length]
   rw[hl]at done
   exact qz done
  | succ m ih =>
   intro k hk
   have h1:k<a.length:=by omega
   have h2:k<b.length:=by omega
   rw[List.drop_eq_getElem_cons h1,List.drop_eq_getElem_cons h2]
   show _=some (if(sameE a[k] b[k]&&sameEs (a.drop (k+1)) (b.drop (k+1)))=true then _ else _)
   have st:=step k h1 h2
   cases q:sameE a[k] b[k]with
   | true =>
    rw[q,if_pos rfl]at st
    rw[vu st,Bool.true_and]
    exact ih (k+1) (by omega)
   | false =>
    rw[q,if_neg (by simp)]at st
    exact qz st
 have:=key a.length 0 (by omega)
 simpa using this
theorem tb(a b:Rat)(ha:uK a)(hb:uK b):(bB a b).run=some (cx a b):=by
 have na:=ki (k:=100) (by omega) ha
 have nb:=ki (k:=100) (by omega) hb
 unfold bB cx
 rw[z6 (dE a (ez ha (by omega))),z6 (dE b (ez hb (by omega)))]
 cases((norm a).1==(norm b).1)with
 | false=>rfl
 | true =>
  rw[zj,z6 (mw _ _ (by have:=na.2.2.1; omega)),Bool.true_and]
  cases((norm a).2.1==(norm b).2.1)with
  | false=>rfl
  | true=>rw[zj,z6 (mw _ _ (by have:=na.2.2.2; omega)),z7,Bool.true_and]
theorem Eg(e:Expr):(Expr.kids e).length<=xk e:=by
 cases e with | mk k n s l =>
 have:=oN l
 show l.length<=1+wz l
 omega
theorem bQ(a b:Expr)(ha:allOk a)(hb:allOk b)(la:xk a<=1000000):(bI a b).run=some (sameE a b):=by
 unfold bI
 refine fJ (λx:Expr×Expr=>allOk x.1/\allOk x.2/\xk x.1<=1000000) (λx=>xk x.1) (λx=>sameE x.1 x.2) (λx hx g hg => ?_) (x:=(a,b)) ⟨ha,hb,la⟩
 obtain⟨a,b⟩:=x
 obtain⟨ha,hb,la⟩:=hx
 dsimp only at ha hb la ⊢
 cases a with | mk k n s l =>
 cases b with | mk k' n' s' l' =>
 have hk:=Eg (.mk k n s l)
 have hk:l.length<=xk (.mk k n s l):=hk
 unfold fM
 show _=some ((k==k')&&(zh s s'&&(cx n n'&&sameEs l l')))
 have head:((.ite (k != k') (.ret true) (.ite (!(zh s s')) (.ret true) (T.bind (bB n n') λr=>.ite (!r) (.ret true) (.ret ((Nat.cast (List.length l):Int) != (Nat.cast (List.length l'):Int)))))):T Bool).run=some (!((k==k')&&(zh s s'&&(cx n n'&&((l.length:Int)==(l'.length:Int)))))):=by
  rw[bne]
  cases(k==k')with
  | false=>rfl
  | true =>
   rw[z8 (by rfl)]
   cases zh s s' with
   | false=>rfl
   | true =>
    rw[z8 (by rfl),z6 (tb n n' ha.1 hb.1)]
    cases cx n n' with
    | false=>rfl
    | true=>rw[z8 (by rfl),z7]; rfl
 show(T.bind (.ite (k != k') (.ret true) (.ite (!(zh s s')) (.ret true) (T.bind (bB n n') λr=>.ite (!r) (.ret true) (.ret ((Nat.cast (List.length l):Int) != (Nat.cast (List.length l'):Int)))))) _).run=_
 rw[z6 head]
 cases q:((k==k')&&(zh s s'&&(cx n n'&&((l.length:Int)==(l'.length:Int)))))with
 | false =>
  rw[za (by rfl),z7]
  congr 1
  revert q
  by_cases hl:l.length=l'.length
  ·rw[show((l.length:Int)==(l'.length:Int))=true by simp[hl]]
   cases(k==k')<;>cases zh s s'<;>cases cx n n'<;>simp
  ·rw[VE l l' hl]
   simp
 | true =>
  simp only[Bool.and_eq_true,beq_iff_eq]at q
  obtain⟨q1,q2,q3,q4⟩:=q
  have hl:l.length=l'.length:=by omega
  rw[z8 (by rfl),q2,q3,show(k==k')=true by simpa using q1,Bool.true_and,Bool.true_and,Bool.true_and]
  have key:(Qp (λy0 y1=>g (y0,y1)) (.mk k n s l) (.mk k' n' s' l') 0).run=some (if sameEs l l'=true then .inl ()else .inr false):=by
   refine Sf (gz (λy0 y1=>g (y0,y1)) (.mk k n s l) (.mk k' n' s' l')) l l' hl (λj h h' => ?_) ?_
   ·have hr:=hg (l[j],l'[j]) ⟨eH ha.2 _ (List.getElem_mem h),eH hb.2 _ (List.getElem_mem h'),by have:=lQ (List.getElem_mem h); have e:xk (.mk k n s l)=1+wz l:=rfl; show xk l[j]<=1000000; omega⟩ (by have:=lQ (List.getElem_mem h); have e:xk (.mk k n s l)=1+wz l:=rfl; show xk l[j]<xk (.mk k n s l); omega)
    unfold gz
    dsimp only
    rw[show Expr.kids (.mk k n s l)=l from rfl,show Expr.kids (.mk k' n' s' l')=l' from rfl,za (uN h),zb (qf h),zb (qf h'),kO h,kO h',z6 hr]
    cases sameE l[j] l'[j]with
    | false=>rfl
    | true=>rw[z8 (by rfl),z7,iU j _ h (by omega),if_pos rfl]
   ·unfold gz
    dsimp only
    rw[show Expr.kids (.mk k n s l)=l from rfl,z8 (kl _),z7]
  rw[z6 key]
  cases sameEs l l'<;>rfl
theorem z5N:zu 2=[2]:=by rw[kt (by omega),show 2 / 4294967296=0 from rfl,ql]; rfl
theorem N2:fB [50]=(false,[2],[1],()):=by
 have e:pn [50]=some (2,1):=by decide +kernel
 unfold fB
 rw[e]
 show wM _ 2 1=_
 unfold wM
 rw[if_neg (by decide),show 2 / Nat.gcd 2 1=2 from rfl,show 1 / Nat.gcd 2 1=1 from rfl,z5N,Bi]
 rfl
def lv(s:ze):Expr:=.mk 2 zQ s []
theorem RF:norm (false,[2],[1],())=(false,[2],[1],()):=by
 rw[<- N2]
 have e:pn [50]=some (2,1):=by decide +kernel
 have:fB [50]=wM (List.isPrefixOf [45] [50]) 2 1:=by
  unfold fB
  rw[e]
  rfl
 rw[this]
 exact X9 _ _ _
theorem z2b:wY (fB [50])=true:=by
 rw[N2]
 unfold wY ep um trimB
 rw[RF]
 show(((zu 2==[2])&&((zu 1==[1])&&_))&&_)=true
 rw[z5N,Bi]
 rfl
theorem Bt(s:ze):kP (qy s).1/\xk (qy s).1<=s.length+1:=by
 have hg:=YE (s:=s) (R:=mg zQ s) (N:=s.length+1) (by
  have:=Yl j8 s
  cases q:mg zQ s with
  | no=>trivial
  | er=>trivial
  | ok e r l=>rw[q]at this; exact⟨this.1,by have:=this.2; omega⟩) (by omega)
 have hz:kP zE/\xk zE<=s.length+1:=⟨WW,by show(1:Nat)+0<=s.length+1; omega⟩
 unfold qy CR
 split
 ·exact hz
 ·split
  ·exact hz
  ·exact hg
theorem zq{α:Type}(n:Nat)(t:T α):(T.zL (ux n 0 n n) t).run=t.run:=zJ t rfl rfl rfl
theorem O7(s:ze)(h:s.length<=1000000000):(iv s).run=some (xC 32 [] s):=by
 have e:(strings_FieldsFunc s (λz0=>gv z0)).run=some (xC 32 [] s):=by
  unfold strings_FieldsFunc
  rw[zb (by omega),z7]
 unfold iv
 rw[z6 e,z7]
def yH:ze->Option (ze×Int×ze)
 | []=>none
 | b::r=>if b=61 then some ([],0,r)else if b=60 then(if[61].isPrefixOf r=true then some ([],2,r.drop 1)else some ([],1,r))else
   match yH r with
   | some (l,c,q)=>some (b::l,c,q)
   | none=>none
theorem J0:∀ {s:ze},(∀ b∈s,b≠60/\b≠61)->yH s=none
 | [],_=>rfl
 | b::r,h=>by
  have hb:=h b List.mem_cons_self
  unfold yH
  rw[if_neg hb.2,if_neg hb.1,J0 λx hx=>h x (List.mem_cons_of_mem _ hx)]
theorem Xj:∀ {a:ze} (t:ze),(∀ b∈a,b≠60/\b≠61)->yH (a++t)=(match yH t with | some (l,c,q)=>some (a++l,c,q) | none=>none)
 | [],t,_=>by
  show yH t=_
  cases yH t<;>rfl
 | b::a,t,h=>by
  have hb:=h b List.mem_cons_self
  show(if b=61 then _ else if b=60 then _ else match yH (a++t)with | some (l,c,q)=>some (b::l,c,q) | none=>none)=_
  rw[if_neg hb.2,if_neg hb.1,Xj t λx hx=>h x (List.mem_cons_of_mem _ hx)]
  cases yH t<;>rfl
theorem JA:∀ s:ze,(gW s [60,61] = -1/\∀ b∈s,b≠60/\b≠61)\/∃ (a:ze) (c:UInt8) (r:ze),s=a++c::r/\(c=60\/c=61)/\(∀ b∈a,b≠60/\b≠61)/\gW s [60,61]=(a.length:Int)
 | []=>.inl ⟨rfl,λb h=>by cases h⟩
 | b::r=>by
  by_cases hb:b=60\/b=61
  ·refine .inr ⟨[],b,r,rfl,hb,λx h=>absurd h List.not_mem_nil,?_⟩
   unfold gW
   rw[if_pos (by rcases hb with rfl | rfl<;>rfl)]
   rfl
  ·have hn:b≠60/\b≠61:=⟨λh=>hb (.inl h),λh=>hb (.inr h)⟩
   have hc:([60,61]:ze).contains b=false:=by
    rw[List.contains_eq_mem,decide_eq_false_iff_not]
    simp[hn.1,hn.2]
   have e:gW (b::r) [60,61]=if gW r [60,61] == -1 then -1 else gW r [60,61]+1:=by
    show(if([60,61]:ze).contains b=true then _ else _)=_
    rw[hc,if_neg (by simp)]
   rcases JA r with⟨h1,h2⟩ | ⟨a,c,q,rfl,h2,h3,h4⟩
   ·refine .inl ⟨by rw[e,h1]; rfl,λx hx => ?_⟩
    rcases List.mem_cons.1 hx with rfl | hx
    ·exact hn
    ·exact h2 x hx
   ·refine .inr ⟨b::a,c,q,rfl,h2,λx hx => ?_,?_⟩
    ·rcases List.mem_cons.1 hx with rfl | hx
     ·exact hn
     ·exact h3 x hx
    ·rw[e,h4,if_neg (by rw[beq_iff_eq]; omega),List.length_cons]; omega
theorem z3B(a:ze)(c:UInt8)(r:ze):vw ((a.length:Nat):Int) ((a.length+1:Nat):Int) (a++c::r)=[c]:=by
 rw[jH]
 rw[show(a++c::r).take (a.length+1)=a++[c] by rw[List.take_append,List.take_of_length_le (by omega)]; simp]
 simp
theorem SC(a t:ze):vw (0:Int) ((a.length:Nat):Int) (a++t)=a:=by
 have:=jH (a++t) 0 a.length
 rw[List.drop_zero,List.take_left']at this
 ·exact this
 ·rfl
theorem OF(a:ze)(c:UInt8)(r:ze):vw ((a.length+1:Nat):Int) (((a++c::r).length:Nat):Int) (a++c::r)=r:=by
 rw[jH,List.take_length,show a++c::r=(a++[c])++r by simp,List.drop_left' (by simp)]
theorem Ek(s p:ze)(h:s.length<=1000000000)(hp:p.length<=1000000):(strings_HasPrefix s p).run=some (List.isPrefixOf p s):=by
 have e:(xw s p).run=some (List.isPrefixOf p s):=by
  unfold xw
  rw[zb (λhd=>bZ.2 ⟨by omega,by omega,by have:=of_decide_eq_true hd; omega⟩),z7]
  have hc:vw (0:Int) ((p.length:Nat):Int) s=s.take p.length:=by
   have:=jH s 0 p.length
   rwa [List.drop_zero]at this
  rw[hc]
  congr 1
  rw[Bool.eq_iff_iff,Bool.and_eq_true,decide_eq_true_eq,xP,decide_eq_true_eq,List.isPrefixOf_iff_prefix,List.prefix_iff_eq_take]
  constructor
  ·rintro⟨-,e⟩; exact e.symm
  ·intro e
   exact⟨by have:=congrArg List.length e; rw[List.length_take]at this; omega,e.symm⟩
 unfold strings_HasPrefix
 rw[z6 e,z7]
def kL(fx s:ze):Expr×Expr×ze×Int:=match yH s with
 | none=>(zE,(zE,(([]:ze),(2:Int))))
 | some (l,c,r)=>if(qy l).2.2≠0 then((qy l).1,(zE,(([]:ze),(qy l).2.2)))
  else((qy l).1,((qy r).1,(ju c,(if(qy r).2.2=0/\¬ (0<=cV fx (ju c))then 2 else(qy r).2.2))))
theorem QA(s fx:ze)(hs:s.length<=80000)(hg:fx.length<=1000):(vz s fx).run=some (kL fx s):=by
 have hI:(strings_IndexAny s [60,61]).run=some (gW s [60,61]):=by
  unfold strings_IndexAny
  rw[zb ⟨by omega,by decide,by decide,by decide⟩,z7]
 unfold vz
 rw[z6 hI]
 rcases JA s with⟨h1,h2⟩ | ⟨a,c,r,rfl,hc,ha,hi⟩
 ·rw[h1,za (by rfl),z7]
  unfold kL
  rw[J0 h2]
 ·have hlen:(a++c::r).length=a.length+(r.length+1):=by rw[List.length_append,List.length_cons]
  have hw:zF (((a.length:Nat):Int)+1)=((a.length+1:Nat):Int):=by rw[zA (by omega) (by omega)]; omega
  rw[hi,z8 (decide_eq_false (by omega)),hw,zb (bZ.2 ⟨by omega,by omega,by omega⟩),zb (bZ.2 ⟨by omega,by omega,by omega⟩),zb (bZ.2 ⟨by omega,by omega,by omega⟩),z3B,OF,SC]
  have fin:∀ (cm:Int) (q:ze),yH (a++c::r)=some (a,cm,q)->q.length<=80000->(cm=0\/cm=1\/cm=2)->(T.bind (jz a) λ(r1,r2,e) =>
   .ite (e != (0:Int))
    (.ret (r1,(zE,(([]:ze),e))))
    (T.bind (T.bind (jz q) λ(r3,r4,e1) =>
       T.bind (.ite (e1==(0:Int))
          (T.bind (strings_Contains fx (ju cm)) λr5 =>
           .ret ((!r5),(r1,r3)))
          (.ret (false,(r1,r3))):T ((Bool×AM.Expr×AM.Expr))) λ(x1,v4,v5) =>
       .ite x1
        (.ret ((2:Int),(v4,v5)))
        (.ret (e1,(v4,v5))):T ((Int×AM.Expr×AM.Expr))) λ(e2,v6,v7) =>
     .ret (v6,(v7,(ju cm,e2)))):T (AM.Expr×AM.Expr×ze×Int)).run=some (kL fx (a++c::r)):=by
   intro cm q he hq hcm
   unfold kL
   rw[he,z6 (Yq a (by omega))]
   dsimp only
   have hQ:=Yq q (by omega)
   generalize qy a=A
   generalize qy q=B at hQ ⊢
   obtain⟨A1,A2,A3⟩:=A
   obtain⟨B1,B2,B3⟩:=B
   dsimp only
   by_cases e:A3≠0
   ·rw[if_pos e,za (by simpa using e),z7]
   ·rw[if_neg e,z8 (by simpa using e)]
    have hC:(strings_Contains fx (ju cm)).run=some (decide ((0:Int)<=cV fx (ju cm))):=by
     unfold strings_Contains
     rw[zb (by omega),z7]
    have inner:(T.bind (jz q) λ(r3,r4,e1) =>
       T.bind (.ite (e1==(0:Int))
          (T.bind (strings_Contains fx (ju cm)) λr5 =>
           .ret ((!r5),(A1,r3)))
          (.ret (false,(A1,r3))):T ((Bool×AM.Expr×AM.Expr))) λ(x1,v4,v5) =>
       .ite x1
        (.ret ((2:Int),(v4,v5)))
        (.ret (e1,(v4,v5))):T ((Int×AM.Expr×AM.Expr))).run=some ((if B3=0/\¬ (0<=cV fx (ju cm))then 2 else B3),(A1,B1)):=by
     rw[z6 hQ]
     dsimp only
     by_cases e2:B3=0
     ·subst e2
      have hb:(.ite (((0:Int))==(0:Int)) (T.bind (strings_Contains fx (ju cm)) λr5=>.ret ((!r5),(A1,B1))) (.ret (false,(A1,B1))):T ((Bool×AM.Expr×AM.Expr))).run=some ((!decide ((0:Int)<=cV fx (ju cm))),(A1,B1)):=by
       rw[za (by rfl),z6 hC,z7]
      rw[z6 hb]
      dsimp only
      by_cases k:(0:Int)<=cV fx (ju cm)
      ·rw[if_neg (λh=>h.2 k),z8 (by rw[decide_eq_true k]; rfl),z7]
      ·rw[if_pos ⟨rfl,k⟩,za (by rw[decide_eq_false k]; rfl),z7]
     ·have hb:(.ite (B3==(0:Int)) (T.bind (strings_Contains fx (ju cm)) λr5=>.ret ((!r5),(A1,B1))) (.ret (false,(A1,B1))):T ((Bool×AM.Expr×AM.Expr))).run=some (false,(A1,B1)):=by
       rw[z8 (by simpa using e2),z7]
      rw[z6 hb]
      dsimp only
      rw[if_neg (λh=>e2 h.1),zg,z7]
    rw[z6 inner]
    dsimp only
    rw[z7]
  have tG:=Xj (c::r) ha
  rcases hc with rfl | rfl
  ·have hp:=Ek r [61] (by omega) (by decide)
   have hq:(.ite (zh ([60]:ze) ([60]:ze)) (T.bind (strings_HasPrefix r ([61]:ze)) λr=>.ret (r,(zE,zE))) (.ret (false,(zE,zE))):T (Bool×AM.Expr×AM.Expr)).run=some (List.isPrefixOf [61] r,(zE,zE)):=by
    rw[za (qq _),z6 hp,z7]
   have ec:yH (60::r)=(if[61].isPrefixOf r=true then some ([],2,r.drop 1)else some ([],1,r)):=by
    show(if(60:UInt8)=61 then _ else if(60:UInt8)=60 then _ else _)=_
    rw[if_neg (by decide),if_pos rfl]
   rw[ec]at tG
   by_cases k:[61].isPrefixOf r=true
   ·rw[if_pos k]at tG
    have hr:r.length >= 1:=by
     cases r with
     | nil=>cases k
     | cons x y=>simp
    have hsg:(T.bind (.ite (zh ([60]:ze) ([60]:ze)) (T.bind (strings_HasPrefix r ([61]:ze)) λr=>.ret (r,(zE,zE))) (.ret (false,(zE,zE))):T (Bool×AM.Expr×AM.Expr)) λ(x,v,v1) =>
     .ite x
      (.zL (yY (1:Int) ((r.length:Nat):Int) (List.length r)) <|
       .ret (([60,61]:ze),((vw (1:Int) ((r.length:Nat):Int) r),(v,v1))))
      (.ret (([60]:ze),(r,(v,v1)))):T ((ze×ze×AM.Expr×AM.Expr))).run=some (([60,61]:ze),(r.drop 1,(zE,zE))):=by
     rw[z6 hq]
     dsimp only
     rw[za k,zb (bZ.2 ⟨by omega,by omega,by omega⟩),z7]
     have:=jH r 1 r.length
     rw[List.take_length]at this
     rw[show vw (1:Int) ((r.length:Nat):Int) r=r.drop 1 from this]
    refine(z6 hsg _).trans ?_
    exact fin 2 (r.drop 1) (by rw[tG]; simp) (by rw[List.length_drop]; omega) (.inr (.inr rfl))
   ·rw[if_neg k]at tG
    have hsg:(T.bind (.ite (zh ([60]:ze) ([60]:ze)) (T.bind (strings_HasPrefix r ([61]:ze)) λr=>.ret (r,(zE,zE))) (.ret (false,(zE,zE))):T (Bool×AM.Expr×AM.Expr)) λ(x,v,v1) =>
     .ite x
      (.zL (yY (1:Int) ((r.length:Nat):Int) (List.length r)) <|
       .ret (([60,61]:ze),((vw (1:Int) ((r.length:Nat):Int) r),(v,v1))))
      (.ret (([60]:ze),(r,(v,v1)))):T ((ze×ze×AM.Expr×AM.Expr))).run=some (([60]:ze),(r,(zE,zE))):=by
     rw[z6 hq]
     dsimp only
     rw[z8 (by cases hh:List.isPrefixOf [61] r with | false=>rfl | true=>exact absurd hh k),z7]
    refine(z6 hsg _).trans ?_
    exact fin 1 r (by rw[tG]; simp) (by omega) (.inr (.inl rfl))
  ·have ec:yH (61::r)=some ([],0,r):=by
    show(if(61:UInt8)=61 then _ else _)=_
    rw[if_pos rfl]
   rw[ec]at tG
   have hsg:(T.bind (.ite (zh ([61]:ze) ([60]:ze)) (T.bind (strings_HasPrefix r ([61]:ze)) λr=>.ret (r,(zE,zE))) (.ret (false,(zE,zE))):T (Bool×AM.Expr×AM.Expr)) λ(x,v,v1) =>
     .ite x
      (.zL (yY (1:Int) ((r.length:Nat):Int) (List.length r)) <|
       .ret (([60,61]:ze),((vw (1:Int) ((r.length:Nat):Int) r),(v,v1))))
      (.ret (([61]:ze),(r,(v,v1)))):T ((ze×ze×AM.Expr×AM.Expr))).run=some (([61]:ze),(r,(zE,zE))):=by
    have hq:(.ite (zh ([61]:ze) ([60]:ze)) (T.bind (strings_HasPrefix r ([61]:ze)) λr=>.ret (r,(zE,zE))) (.ret (false,(zE,zE))):T (Bool×AM.Expr×AM.Expr)).run=some (false,(zE,zE)):=by
     rw[z8 (by rfl),z7]
    rw[z6 hq]
    dsimp only
    rw[zg,z7]
   refine(z6 hsg _).trans ?_
   exact fin 0 r (by rw[tG]; simp) (by omega) (.inl rfl)
theorem TF(b c:UInt8):(((b.toNat:Nat):Int)==((c.toNat:Nat):Int))=decide (b=c):=by
 rw[Bool.eq_iff_iff,beq_iff_eq,decide_eq_true_eq]
 constructor
 ·intro h; exact UInt8.toNat_inj.1 (by omega)
 ·rintro rfl; rfl
theorem Xa(c:UInt8):∀ (l cur r:ze),(∀ b∈l,b≠c)->xC c cur (l++r)=xC c (cur++l) r
 | [],cur,r,_=>by rw[List.append_nil]; rfl
 | b::l,cur,r,h=>by
  show(if b=c then _ else xC c (cur++[b]) (l++r))=_
  rw[if_neg (h b List.mem_cons_self),Xa c l _ r (λx hx=>h x (List.mem_cons_of_mem _ hx)),List.append_assoc]
  rfl
def UF(w:List ze)(n:Nat):ze×Bool:=if w.length=n then([],true)
 else if w.length=n+2/\zh (nth w (n:Int) (zk .str)) [119,104,101,110]=true/\zG (nth w ((n+1:Nat):Int) (zk .str))=true then(nth w ((n+1:Nat):Int) (zk .str),true)else([],false)
theorem W5(w:List ze)(n:Nat)(hn:n<=1000):(jR w (n:Int)).run=some (UF w n):=by
 have w2:zF ((n:Int)+2)=((n+2:Nat):Int):=by rw[zA (by omega) (by omega)]; omega
 have w1:zF ((n:Int)+1)=((n+1:Nat):Int):=by rw[zA (by omega) (by omega)]; omega
 unfold jR UF
 rw[w2,w1]
 by_cases c:w.length=n
 ·rw[if_pos c,za (by rw[beq_iff_eq]; omega),z7]
 ·rw[if_neg c,z8 (by rw[beq_eq_false_iff_ne]; omega)]
  by_cases c2:w.length=n+2
  ·have hk:(wa w ((n+2:Nat):Int) (n:Int) [119,104,101,110]).run=some (zh (nth w (n:Int) (zk .str)) [119,104,101,110]):=by
    unfold wa
    rw[zb (λ_=>qf (by omega)),z7]
    rw[show(((w.length:Nat):Int)==((n+2:Nat):Int))=true by rw[beq_iff_eq]; omega,Bool.true_and]
   have inner:(T.bind (wa w ((n+2:Nat):Int) (n:Int) [119,104,101,110]) λr =>
     .ite r
      (.zL (qw ((n+1:Nat):Int) (List.length w)) <|
       T.bind (xi (nth w ((n+1:Nat):Int) (zk .str))) λr1 =>
       .ret r1)
      (.ret false):T (Bool)).run=some (zh (nth w (n:Int) (zk .str)) [119,104,101,110]&&zG (nth w ((n+1:Nat):Int) (zk .str))):=by
    rw[z6 hk]
    cases zh (nth w (n:Int) (zk .str)) [119,104,101,110]with
    | false=>rw[zg,z7]; rfl
    | true=>rw[zj,zb (qf (by omega)),z6 (xG _),z7]; rfl
   rw[z6 inner]
   cases q:(zh (nth w (n:Int) (zk .str)) [119,104,101,110]&&zG (nth w ((n+1:Nat):Int) (zk .str)))with
   | false=>rw[if_neg (λh=>by rw[h.2.1,h.2.2]at q; cases q),zg,z7]
   | true=>rw[Bool.and_eq_true]at q; rw[if_pos ⟨c2,q.1,q.2⟩,zj,zb (qf (by omega)),z7]
  ·have hk:(wa w ((n+2:Nat):Int) (n:Int) [119,104,101,110]).run=some false:=by
    have hb:(((w.length:Nat):Int)==((n+2:Nat):Int))=false:=by rw[beq_eq_false_iff_ne]; omega
    unfold wa
    rw[zb (λh=>by rw[hb]at h; cases h),z7,hb,Bool.false_and]
   have inner:(T.bind (wa w ((n+2:Nat):Int) (n:Int) [119,104,101,110]) λr =>
     .ite r
      (.zL (qw ((n+1:Nat):Int) (List.length w)) <|
       T.bind (xi (nth w ((n+1:Nat):Int) (zk .str))) λr1 =>
       .ret r1)
      (.ret false):T (Bool)).run=some false:=by
    rw[z6 hk,zg,z7]
   rw[z6 inner,if_neg (λh=>c2 h.1),zg,z7]
theorem bind_mono{R R':PR}{f f':Expr->ze->Bool->PR}(h:R≠.no->R'=R)(hf:∀ e r l,f e r l≠.no->f' e r l=f e r l)(hn:R.bind f≠.no):R'.bind f'=R.bind f:=by
 cases R with
 | no=>exact absurd rfl hn
 | er k b r d l=>rw[h (by simp)]; rfl
 | ok e r l=>rw[h (by simp)]; exact hf e r l hn
theorem dA{K K':Bool->ze->PR}(hK:∀ l q,K l q≠.no->K' l q=K l q)(m1 m2:UInt8)(k1 k2:Int):∀ (n n':Nat) (e:Expr) (r:ze) (l:Bool),n<=n'->yD K m1 m2 k1 k2 n e r l≠.no->yD K' m1 m2 k1 k2 n' e r l=yD K m1 m2 k1 k2 n e r l
 | 0,_,_,_,_,_,h=>absurd rfl h
 | n+1,0,_,_,_,h,_=>by omega
 | n+1,n'+1,e,r,l,h,hn=>by
  unfold yD at hn ⊢
  cases q:xT [m1,m2] r with
  | none=>rfl
  | some x =>
   obtain⟨c,q'⟩:=x
   rw[q]at hn
   exact bind_mono (hK l q') (λe2 q2 l2 h2=>dA hK m1 m2 k1 k2 n n' _ q2 l2 (by omega) h2) hn
theorem YM{K K':Bool->ze->PR}(hK:∀ l q,K l q≠.no->K' l q=K l q)(m1 m2:UInt8)(k1 k2:Int)(n n':Nat)(h:n<=n')(l:Bool)(r:ze)(hn:rowP K m1 m2 k1 k2 n l r≠.no):rowP K' m1 m2 k1 k2 n' l r=rowP K m1 m2 k1 k2 n l r :=
 bind_mono (hK l r) (λe q l' h2=>dA hK m1 m2 k1 k2 n n' e q l' h h2) hn
theorem OX{z:Rat}{F S F' S':Nat->Bool->ze->PR}(hF:∀ d l q,F d l q≠.no->F' d l q=F d l q)(hS:∀ d l q,S d l q≠.no->S' d l q=S d l q)(d:Nat)(l:Bool)(s:ze)(hn:iY z F S d l s≠.no):iY z F' S' d l s=iY z F S d l s:=by
 unfold iY at hn ⊢
 cases e:yg s with
 | nil=>rfl
 | cons c r =>
  rw[e]at hn
  dsimp only at hn ⊢
  by_cases P8:c=45
  ·rw[if_pos P8]at hn ⊢
   rw[if_pos P8]
   by_cases c31:31<=d
   ·rw[if_pos c31,if_pos c31]
   ·rw[if_neg c31]at hn ⊢
    rw[if_neg c31]
    exact bind_mono (hF _ _ _) (λ_ _ _ _=>rfl) hn
  ·rw[if_neg P8]at hn ⊢
   rw[if_neg P8]
   by_cases P9:c=40
   ·rw[if_pos P9]at hn ⊢
    rw[if_pos P9]
    by_cases c31:31<=d
    ·rw[if_pos c31,if_pos c31]
    ·rw[if_neg c31]at hn ⊢
     rw[if_neg c31]
     exact bind_mono (hS _ _ _) (λ_ _ _ _=>rfl) hn
   ·rw[if_neg P9,if_neg P9]
theorem gm(z:Rat):∀ (n n':Nat),n<=n'->(∀ d l r,pF z n d l r≠.no->pF z n' d l r=pF z n d l r)/\(∀ d l r,pP z n d l r≠.no->pP z n' d l r=pP z n d l r)/\(∀ d l r,pS z n d l r≠.no->pS z n' d l r=pS z n d l r)
 | 0,_,_=>⟨λ_ _ _ h=>absurd (by unfold pF; rfl) h,λ_ _ _ h=>absurd (by unfold pP; rfl) h,λ_ _ _ h=>absurd (by unfold pS; rfl) h⟩
 | n+1,0,h=>by omega
 | n+1,n'+1,h=>by
  obtain⟨h1,h2,h3⟩:=gm z n n' (by omega)
  refine⟨λd l r hn => ?_,λd l r hn => ?_,λd l r hn => ?_⟩
  ·unfold pF at hn ⊢; exact OX h1 h3 d l r hn
  ·unfold pP at hn ⊢; exact YM (h1 d) _ _ _ _ n n' (by omega) l r hn
  ·unfold pS at hn ⊢; exact YM (h2 d) _ _ _ _ n n' (by omega) l r hn
def SF(d:Nat)(l:Bool)(s:ze)(R:PR):Prop:=R≠.no/\∃ n,pF zQ n d l s=R
def SP(d:Nat)(l:Bool)(s:ze)(R:PR):Prop:=R≠.no/\∃ n,pP zQ n d l s=R
def SS(d:Nat)(l:Bool)(s:ze)(R:PR):Prop:=R≠.no/\∃ n,pS zQ n d l s=R
def RP(d:Nat)(e:Expr)(r:ze)(l:Bool)(R:PR):Prop:=R≠.no/\∃ n m,yD (pF zQ n d) 42 47 5 6 m e r l=R
def RS(d:Nat)(e:Expr)(r:ze)(l:Bool)(R:PR):Prop:=R≠.no/\∃ n m,yD (pP zQ n d) 43 45 3 4 m e r l=R
theorem Y8{d:Nat}{l:Bool}{s:ze}{e:Expr}{q:ze}{l':Bool}{R:PR}(h1:SF d l s (.ok e q l'))(h2:RP d e q l' R):SP d l s R:=by
 obtain⟨_,n1,e1⟩:=h1
 obtain⟨hR,n2,m,e2⟩:=h2
 refine⟨hR,max (max n1 n2) m+1,?_⟩
 unfold pP rowP
 rw[(gm zQ n1 (max (max n1 n2) m) (by omega)).1 d l s (by rw[e1]; simp),e1]
 show yD _ _ _ _ _ _ e q l'=R
 rw[dA (λl q h=>(gm zQ n2 (max (max n1 n2) m) (by omega)).1 d l q h) 42 47 5 6 m (max (max n1 n2) m) e q l' (by omega) (by rw[e2]; exact hR),e2]
theorem Im{d:Nat}{l:Bool}{s:ze}{e:Expr}{q:ze}{l':Bool}{R:PR}(h1:SP d l s (.ok e q l'))(h2:RS d e q l' R):SS d l s R:=by
 obtain⟨_,n1,e1⟩:=h1
 obtain⟨hR,n2,m,e2⟩:=h2
 refine⟨hR,max (max n1 n2) m+1,?_⟩
 unfold pS rowP
 rw[(gm zQ n1 (max (max n1 n2) m) (by omega)).2.1 d l s (by rw[e1]; simp),e1]
 show yD _ _ _ _ _ _ e q l'=R
 rw[dA (λl q h=>(gm zQ n2 (max (max n1 n2) m) (by omega)).2.1 d l q h) 43 45 3 4 m (max (max n1 n2) m) e q l' (by omega) (by rw[e2]; exact hR),e2]
theorem rL{d:Nat}{e:Expr}{r:ze}{l:Bool}(h:xT [42,47] r=none):RP d e r l (.ok e (yg r) l):=⟨by simp,0,1,by unfold yD; rw[h]⟩
theorem V8{d:Nat}{e:Expr}{r:ze}{l:Bool}(h:xT [43,45] r=none):RS d e r l (.ok e (yg r) l):=⟨by simp,0,1,by unfold yD; rw[h]⟩
theorem LI{d:Nat}{e:Expr}{r:ze}{l:Bool}{c:UInt8}{q:ze}{e2:Expr}{q2:ze}{l2:Bool}{R:PR}(h:xT [42,47] r=some (c,q))(h1:SF d l q (.ok e2 q2 l2))(h2:RP d (bc (if c=42 then 5 else 6) [e,e2]) q2 l2 R):RP d e r l R:=by
 obtain⟨_,n1,e1⟩:=h1
 obtain⟨hR,n2,m,e3⟩:=h2
 refine⟨hR,max n1 n2,m+1,?_⟩
 unfold yD
 rw[h]
 dsimp only
 rw[(gm zQ n1 (max n1 n2) (by omega)).1 d l q (by rw[e1]; simp),e1]
 show yD _ _ _ _ _ _ _ q2 l2=R
 rw[dA (λl q h=>(gm zQ n2 (max n1 n2) (by omega)).1 d l q h) 42 47 5 6 m m _ q2 l2 (by omega) (by rw[e3]; exact hR),e3]
theorem IC{d:Nat}{e:Expr}{r:ze}{l:Bool}{c:UInt8}{q:ze}{e2:Expr}{q2:ze}{l2:Bool}{R:PR}(h:xT [43,45] r=some (c,q))(h1:SP d l q (.ok e2 q2 l2))(h2:RS d (bc (if c=43 then 3 else 4) [e,e2]) q2 l2 R):RS d e r l R:=by
 obtain⟨_,n1,e1⟩:=h1
 obtain⟨hR,n2,m,e3⟩:=h2
 refine⟨hR,max n1 n2,m+1,?_⟩
 unfold yD
 rw[h]
 dsimp only
 rw[(gm zQ n1 (max n1 n2) (by omega)).2.1 d l q (by rw[e1]; simp),e1]
 show yD _ _ _ _ _ _ _ q2 l2=R
 rw[dA (λl q h=>(gm zQ n2 (max n1 n2) (by omega)).2.1 d l q h) 43 45 3 4 m m _ q2 l2 (by omega) (by rw[e3]; exact hR),e3]
theorem PG(m r:ze):xT m (yg r)=xT m r:=by unfold xT; rw[BR]
theorem Rs(K:Bool->ze->PR)(m1 m2:UInt8)(k1 k2:Int)(n:Nat)(e:Expr)(r:ze)(l:Bool):yD K m1 m2 k1 k2 n e (yg r) l=yD K m1 m2 k1 k2 n e r l:=by
 cases n with
 | zero=>rfl
 | succ n=>unfold yD; rw[PG,BR]
theorem DD{d:Nat}{e:Expr}{r:ze}{l:Bool}{R:PR}(h:RS d e r l R):RS d e (yg r) l R:=by
 obtain⟨hR,n,m,e2⟩:=h
 exact⟨hR,n,m,by rw[Rs,e2]⟩
theorem zdw{d:Nat}{l:Bool}{s s':ze}{R:PR}(h:SF d l s R)(e:yg s'=yg s):SF d l s' R:=by
 obtain⟨hR,n,e1⟩:=h
 cases n with
 | zero=>exact absurd (by rw[<- e1]; unfold pF; rfl) hR
 | succ n =>
  refine⟨hR,n+1,?_⟩
  rw[<- e1]
  unfold pF iY
  rw[e]
theorem zdh{d:Nat}{l:Bool}{s s':ze}{R:PR}(h:SP d l s R)(e:yg s'=yg s):SP d l s' R:=by
 obtain⟨hR,n,e1⟩:=h
 cases n with
 | zero=>exact absurd (by rw[<- e1]; unfold pP; rfl) hR
 | succ n =>
  cases n with
  | zero=>exact absurd (by rw[<- e1]; unfold pP rowP pF; rfl) hR
  | succ n =>
   refine⟨hR,n+2,?_⟩
   rw[<- e1]
   have:pF zQ (n+1) d l s'=pF zQ (n+1) d l s:=by unfold pF iY; rw[e]
   unfold pP rowP
   rw[this]
theorem z9S{d:Nat}{l:Bool}{s s':ze}{R:PR}(h:SS d l s R)(e:yg s'=yg s):SS d l s' R:=by
 obtain⟨hR,n,e1⟩:=h
 cases n with
 | zero=>exact absurd (by rw[<- e1]; unfold pS; rfl) hR
 | succ n =>
  refine⟨hR,n+1,?_⟩
  rw[<- e1]
  have:pP zQ n d l s'=pP zQ n d l s:=by
   cases n with
   | zero=>unfold pP; rfl
   | succ n =>
    have:pF zQ n d l s'=pF zQ n d l s:=by
     cases n with
     | zero=>unfold pF; rfl
     | succ n=>unfold pF iY; rw[e]
    unfold pP rowP
    rw[this]
  unfold pS rowP
  rw[this]
theorem z6Q{d:Nat}{l:Bool}{s r:ze}{e:Expr}{q:ze}{l':Bool}(hs:yg s=45::r)(hd:d<31)(h:SF (d+1) l r (.ok e q l')):SF d l s (.ok (bc 7 [e]) q l'):=by
 obtain⟨_,n,e1⟩:=h
 refine⟨by simp,n+1,?_⟩
 unfold pF iY
 rw[hs]
 dsimp only
 rw[if_pos rfl,if_neg (by omega),e1]
 rfl
theorem z6G{d:Nat}{l:Bool}{s r:ze}{e:Expr}{q q':ze}{l':Bool}(hs:yg s=40::r)(hd:d<31)(h:SS (d+1) l r (.ok e q l'))(hq:yg q=41::q'):SF d l s (.ok e q' l'):=by
 obtain⟨_,n,e1⟩:=h
 refine⟨by simp,n+1,?_⟩
 have ht:xT [41] q=some (41,q'):=by unfold xT; rw[hq]; rfl
 unfold pF iY
 rw[hs]
 dsimp only
 rw[if_neg (by decide),if_pos rfl,if_neg (by omega),e1]
 show(match xT [41] q with | some (_,q')=>PR.ok e q' l' | none=>.er 2 (yg q) (yg q) (d+1) l')=_
 rw[ht]
theorem z88{d:Nat}{l:Bool}{s r:ze}{c:UInt8}(hs:yg s=c::r)(hc:uO c=true):SF d l s (tK zQ d (c::r) l):=by
 refine⟨BM _ _ _ _,1,?_⟩
 have P8:c≠45:=by rintro rfl; revert hc; decide
 have P9:c≠40:=by rintro rfl; revert hc; decide
 unfold pF iY
 rw[hs]
 dsimp only
 rw[if_neg P8,if_neg P9,if_pos hc]
theorem zc0{c:UInt8}(h:XG c=true):uO c=false:=by
 unfold XG at h
 rw[Bool.and_eq_true,decide_eq_true_eq,decide_eq_true_eq]at h
 cases q:uO c with
 | false=>rfl
 | true=>have:=fQ.1 q; omega
theorem SZ{d:Nat}{l:Bool}{s r:ze}{c:UInt8}(hs:yg s=c::r)(hc:XG c=true):SF d l s (E4 (c::r) l):=by
 refine⟨by unfold E4; simp,1,?_⟩
 have P8:c≠45:=by rintro rfl; revert hc; decide
 have P9:c≠40:=by rintro rfl; revert hc; decide
 unfold pF iY
 rw[hs]
 dsimp only
 rw[if_neg P8,if_neg P9,if_neg (by rw[zc0 hc]; simp),if_pos hc]
theorem Tf{s:ze}{R:PR}(h:SS 0 false s R):mg zQ s=R:=by
 obtain⟨hR,n,e⟩:=h
 have h2:=M3 j8 s
 unfold mg at h2 ⊢
 have a:=(gm zQ (3*s.length+3) (max n (3*s.length+3)) (by omega)).2.2 0 false s h2
 have b:=(gm zQ n (max n (3*s.length+3)) (by omega)).2.2 0 false s (by rw[e]; exact hR)
 rw[<- a,b,e]
def o9:ze->Bool
 | []=>true
 | c::_ => !wW c && !(c==46)
theorem R4{c:UInt8}(h:uO c=true):wW c=true:=by
 have:=fQ.1 h
 unfold wW
 rw[decide_eq_true (by omega:(48:Int)<=(c.toNat:Int)),decide_eq_true (by omega:(c.toNat:Int)<=57)]
 simp
theorem Cv{q:ze}(h:o9 q=true):∀ c r,q=c::r->wW c=false/\c≠46:=by
 rintro c r rfl
 have h:(!wW c && !(c==46))=true:=h
 rw[Bool.and_eq_true]at h
 exact⟨by simpa using h.1,by simpa using h.2⟩
def dN(n:Rat):ze:=(qs (norm n).1 (nv (norm n).2.1) (nv (norm n).2.2.1) 0 61).1
theorem iV{n:Rat}(h:wY n=true):ep n=true/\n.1=false/\um n=false/\(qs (norm n).1 (nv (norm n).2.1) (nv (norm n).2.2.1) 0 61).2=true:=by
 unfold wY at h
 simp only[Bool.and_eq_true,Bool.not_eq_true']at h
 exact⟨h.1,h.2.1,h.2.2.1,h.2.2.2⟩
theorem dy{n:Rat}(hn:uK n)(h:ep n=true):norm n=n:=(Jk n hn.1 hn.2.1).1 h
theorem mF{n:Rat}(hn:uK n)(h:wY n=true):fB (dN n)=norm n/\(dN n).length<=400/\∃ w,qS w=true/\w≠[]/\(dN n=w\/∃ p,qS p=true/\p≠[]/\dN n=w++46::p):=by
 obtain⟨h1,h2,h3,h4⟩:=iV h
 have hnn:=dy hn h1
 have kK:=ki (k:=100) (by omega) hn
 have hd:=eI n.1 (nv n.2.1) (nv n.2.2.1)
 have hd:nv (norm n).2.2.1≠0:=hd
 have hx:qs (norm n).1 (nv (norm n).2.1) (nv (norm n).2.2.1) 0 61=(dN n,true):=Prod.ext rfl h4
 have hl:(zu (nv (norm n).2.1)).length<=16:=by
  have:=zw kK.1
  unfold um at h3
  simp only[Bool.or_eq_false_iff,decide_eq_false_iff_not]at h3
  omega
 have hp:=Bj (norm n) (YW n) hd hl (dN n) hx
 have hlen:=Y3 n hn
 have hlen:(dN n).length<=6000:=hlen
 rw[bT (dN n) (by omega)]at hp
 have hp1:(dN n).length<=400:=by
  by_cases c:400<(dN n).length
  ·rw[if_pos c]at hp
   injection hp with hp
   injection hp with _ hp
   exact absurd hp (by decide)
  ·omega
 refine⟨?_,hp1,?_⟩
 ·rw[if_neg (by omega)]at hp
  unfold fB
  cases w:pn (dN n)with
  | none =>
   rw[w]at hp
   have h2:(2:Int)=0:=congrArg (λx:Option (Rat×Int)=>match x with | some y=>y.2 | none=>5) hp
   exact absurd h2 (by decide)
  | some x =>
   rw[w]at hp
   injection hp with hp
   exact congrArg Prod.fst hp
 ·obtain⟨j,_,_,_,e⟩:=lY _ _ _ hd 61 0 _ hx
  rw[hnn,h2]at e
  have e:dN n=UB (pr (nv n.2.1*10 ^ j / nv n.2.2.1)) j:=e
  by_cases hj:j=0
  ·subst hj
   refine⟨dN n,?_,?_,.inl rfl⟩
   ·rw[e]; unfold UB; rw[if_pos rfl]; exact(iH _).1
   ·rw[e]; unfold UB; rw[if_pos rfl]; exact ML _
  ·obtain⟨w,p,e2,h5,h6,h7,h8,_,_⟩:=sk (pr (nv n.2.1*10 ^ j / nv n.2.2.1)) j hj (iH _).1
   exact⟨w,h5,h6,.inr ⟨p,h7,by rintro rfl; simp at h8; omega,by rw[e,e2]⟩⟩
theorem NV{n:Rat}(hn:uK n)(h:wY n=true):∃ c r,dN n=c::r/\uO c=true:=by
 obtain⟨_,_,w,h1,h2,h3⟩:=mF hn h
 cases w with
 | nil=>exact absurd rfl h2
 | cons c w =>
  have hc:uO c=true:=by rw[u7,Bool.and_eq_true]at h1; exact h1.1
  rcases h3 with e | ⟨p,_,_,e⟩
  ·exact⟨c,w,e,hc⟩
  ·exact⟨c,w++46::p,e,hc⟩
theorem NN{n:Rat}(hn:uK n)(h:wY n=true)(d:Nat)(l:Bool){q:ze}(hq:o9 q=true):tK zQ d (dN n++q) l=.ok (.mk 1 (norm n) [] []) q l:=by
 obtain⟨ht,hlen,w,h1,h2,h3⟩:=mF hn h
 have hs:=Cv hq
 have hs':∀ c r,q=c::r->uO c=false:=by
  intro c r e
  cases hc:uO c with
  | false=>rfl
  | true=>have:=(hs c r e).1; rw[R4 hc]at this; cases this
 have fin:∀ r,Xr zQ (dN n) r l=.ok (.mk 1 (norm n) [] []) r l:=λr=>by
  unfold Xr
  rw[if_neg (by omega),ht]
 rcases h3 with e | ⟨p,h4,h5,e⟩
 ·obtain⟨t1,t2⟩:=jV (u:=dN n) (by rw[e]; exact h1) q hs'
  unfold tK
  rw[t1,t2]
  cases q with
  | nil=>exact fin _
  | cons c r =>
   dsimp only
   rw[if_neg (hs c r rfl).2]
   exact fin _
 ·have e2:dN n++q=w++46::(p++q):=by rw[e,List.append_assoc]; rfl
  obtain⟨t1,t2⟩:=jV h1 (46::(p++q)) (λc r z=>by cases z; decide)
  obtain⟨t3,t4⟩:=jV h4 q hs'
  unfold tK
  rw[e2,t1,t2]
  dsimp only
  rw[if_pos rfl,t3,t4,if_neg h5,<- e]
  exact fin _
theorem Y7:∀ (n:Nat) (s q:ze),s.length<=n->s.all wW=true->o9 q=true->ga wW n (s++q)=(s,q)
 | 0,[],q,_,_,_=>rfl
 | 0,_::_,_,h,_,_=>by simp at h
 | n+1,[],[],_,_,_=>rfl
 | n+1,[],c::q,_,_,hq=>by
  have:=(Cv hq c q rfl).1
  show(if wW c=true then _ else([],c::q))=_
  rw[if_neg (by rw[this]; simp)]
 | n+1,c::s,q,h,ha,hq=>by
  rw[List.all_cons,Bool.and_eq_true]at ha
  have ih:=Y7 n s q (by simpa using h) ha.2 hq
  show(if wW c=true then(c::(ga wW n (s++q)).1,(ga wW n (s++q)).2)else _)=_
  rw[if_pos ha.1,ih]
theorem kz{s:ze}(h:zG s=true):s.length<=24/\s.all wW=true/\∃ c r,s=c::r/\XG c=true:=by
 have h2:=nt h
 refine⟨h2.1,h2.2,?_⟩
 cases s with
 | nil=>cases h
 | cons c r =>
  unfold zG at h
  dsimp only at h
  rw[Bool.and_eq_true,Bool.and_eq_true]at h
  exact⟨c,r,rfl,h.2.1⟩
theorem KW{s:ze}(h:zG s=true)(l:Bool){q:ze}(hq:o9 q=true):E4 (s++q) l=.ok (.mk 2 zQ s []) q l:=by
 obtain⟨h1,h2,_⟩:=kz h
 unfold E4
 rw[Y7 24 s q h1 h2 hq]
mutual
/-- The same expression,as it is read. -/
def canE:Expr->Expr
 | .mk k n s l=>if k=1 then .mk 1 (norm n) [] []else if k=2 then .mk 2 zQ s []else bc k (canL l)
def canL:List Expr->List Expr
 | []=>[]
 | e::r=>canE e::canL r
end
theorem oy{c:UInt8}{r:ze}(h:c≠32):yg (c::r)=c::r:=by unfold yg; rw[if_neg h]
theorem Ju(r:ze):yg (32::r)=yg r:=by conv=>lhs; unfold yg; rw[if_pos rfl]
theorem z7F{c:UInt8}(h:uO c=true):c≠32:=by rintro rfl; revert h; decide
theorem TU{c:UInt8}(h:XG c=true):c≠32:=by rintro rfl; revert h; decide
theorem V6{d:Nat}{k:Int}{n:Rat}{s:ze}{l:List Expr}(ho:xB d (.mk k n s l)=true) :
  (k=1/\l=[]/\wY n=true/\s=[])\/(k=2/\l=[]/\zG s=true/\xD n=true)\/(k=7/\(∃ a,l=[a]/\xB (d+1) a=true)/\xD n=true/\s=[])\/((k=3\/k=4\/k=5\/k=6)/\(∃ a b,l=[a,b]/\xB (d+1) a=true/\xB (d+1) b=true)/\xD n=true/\s=[]):=by
 obtain⟨hk,hl⟩:=lM ho
 have ho:(decide (d<32)&&(vR (.mk k n s l)&&ub (d+1) l))=true:=ho
 simp only[Bool.and_eq_true]at ho
 have WZ:=ho.2.1
 unfold vR at WZ
 rw[Bool.and_eq_true]at WZ
 have hb:=WZ.2
 clear WZ
 rw[show Expr.kind (.mk k n s l)=k from rfl,show Expr.num (.mk k n s l)=n from rfl,show Expr.name (.mk k n s l)=s from rfl]at hb
 have RA:(l.length:Int)=0->l=[]:=λh=>List.eq_nil_of_length_eq_zero (by omega)
 by_cases h1:k=1
 ·rw[if_pos h1,Bool.and_eq_true,xP,decide_eq_true_eq]at hb
  refine .inl ⟨h1,RA ?_,hb.1,hb.2⟩
  rw[hk]; unfold dW; rw[if_pos (.inl h1)]
 ·rw[if_neg h1]at hb
  by_cases h2:k=2
  ·rw[if_pos h2,Bool.and_eq_true]at hb
   refine .inr (.inl ⟨h2,RA ?_,hb.2,hb.1⟩)
   rw[hk]; unfold dW; rw[if_pos (.inr h2)]
  ·rw[if_neg h2,Bool.and_eq_true,xP,decide_eq_true_eq]at hb
   rcases Hy hk h1 h2 with⟨h7,a,rfl⟩ | ⟨RJ,a,b,rfl⟩
   ·have hl:(xB (d+1) a&&ub (d+1) [])=true:=hl
    rw[Bool.and_eq_true]at hl
    exact .inr (.inr (.inl ⟨h7,⟨a,rfl,hl.1⟩,hb.1,hb.2⟩))
   ·have hl:(xB (d+1) a&&(xB (d+1) b&&ub (d+1) []))=true:=hl
    rw[Bool.and_eq_true,Bool.and_eq_true]at hl
    exact .inr (.inr (.inr ⟨RJ,⟨a,b,rfl,hl.1,hl.2.1⟩,hb.1,hb.2⟩))
theorem H7{d:Nat}{e:Expr}(h:xB d e=true):d<32:=by
 cases e with | mk k n s l =>
 have h:(decide (d<32)&&(vR (.mk k n s l)&&ub (d+1) l))=true:=h
 rw[Bool.and_eq_true,decide_eq_true_eq]at h
 exact h.1
structure Kj(e:Expr)(p:Nat):Prop where
 sum:∀ q l R,o9 q=true->xT [42,47] q=none->RS p (canE e) q l R->SS p l (prE e++q) R
 pro:2<=zr e.kind->∀ q l R,o9 q=true->RP p (canE e) q l R->SP p l (prE e++q) R
 fac:3<=zr e.kind->∀ q l,o9 q=true->SF p l (prE e++q) (.ok (canE e) q l)
theorem Kj.E6{e:Expr}{p:Nat}(h:∀ q l,o9 q=true->SF p l (prE e++q) (.ok (canE e) q l)):Kj e p where
 sum q l R hq ht hR:=Im (Y8 (h q l hq) (rL ht)) (DD hR)
 pro _ q l R hq hR:=Y8 (h q l hq) hR
 fac _ q l hq:=h q l hq
theorem Kj.Pr{e:Expr}{p:Nat}(hb:zr e.kind<=2)(h:∀ q l R,o9 q=true->RP p (canE e) q l R->SP p l (prE e++q) R):Kj e p where
 sum q l R hq ht hR:=Im (h q l _ hq (rL ht)) (DD hR)
 pro _ q l R hq hR:=h q l R hq hR
 fac h3:=by omega
theorem Kj.par{e:Expr}{p:Nat}(h:Kj e (p+1))(hp:p<31)(q:ze)(l:Bool):SF p l ([40]++prE e++[41]++q) (.ok (canE e) q l):=by
 have hs:yg ([40]++prE e++[41]++q)=40::(prE e++(41::q)):=by
  rw[show[40]++prE e++[41]++q=40::(prE e++(41::q)) by simp,oy (by decide)]
 have h41:yg (41::q)=41::q:=oy (by decide)
 have t1:xT [42,47] (41::q)=none:=by unfold xT; rw[h41]; rfl
 have t2:xT [43,45] (41::q)=none:=by unfold xT; rw[h41]; rfl
 exact z6G hs hp (h.sum (41::q) l _ rfl t1 (V8 t2)) (by rw[h41,h41])
theorem MR{a:Expr}{p:Nat}(h0:3<=zr a.kind->Kj a p)(h1:zr a.kind<3->Kj a (p+1)/\p<31)(q:ze)(l:Bool)(hq:o9 q=true):SF p l (vO (decide (zr a.kind<3)) (prE a)++q) (.ok (canE a) q l):=by
 by_cases c:zr a.kind<3
 ·rw[decide_eq_true c]
  exact(h1 c).1.par (h1 c).2 q l
 ·rw[decide_eq_false c]
  exact(h0 (by omega)).fac (by omega) q l hq
theorem Le{a:Expr}{p:Nat}(h0:2<=zr a.kind->Kj a p)(h1:zr a.kind<2->Kj a (p+1)/\p<31)(q:ze)(l:Bool)(R:PR)(hq:o9 q=true)(hR:RP p (canE a) q l R):SP p l (vO (decide (zr a.kind<2)) (prE a)++q) R:=by
 by_cases c:zr a.kind<2
 ·rw[decide_eq_true c]
  exact Y8 ((h1 c).1.par (h1 c).2 q l) hR
 ·rw[decide_eq_false c]
  exact(h0 (by omega)).pro (by omega) q l R hq hR
theorem TQ(k:Int):1<=zr k:=by unfold zr; (repeat' split)<;>omega
theorem VY{d:Nat}{e:Expr}(ho:xB d e=true)(hb:zr e.kind<3):d+1<32:=by
 cases e with | mk k n s l =>
 have hb:zr k<3:=hb
 rcases V6 ho with⟨rfl,_⟩ | ⟨rfl,_⟩ | ⟨rfl,_⟩ | ⟨_,⟨a,b,_,Kw,_⟩,_⟩
 ·exact absurd hb (by decide)
 ·exact absurd hb (by decide)
 ·exact absurd hb (by decide)
 ·exact H7 Kw
def KK(d:Nat)(e:Expr):Nat:=if zr e.kind<3 then d+1 else d
theorem z7U:∀ (m:Nat) (e:Expr) (d p:Nat),xk e<=m->xB d e=true->allOk e->p<=KK d e->Kj e p:=by
 intro m
 induction m with
 | zero=>intro e d p hm; have:=QM e; omega
 | succ m ih =>
  intro e d p hm ho ha hp
  cases e with | mk k n s l =>
  have hn:=ha.1
  rcases V6 ho with⟨rfl,rfl,h1,rfl⟩ | ⟨rfl,rfl,h1,h2⟩ | ⟨rfl,⟨a,rfl,Kw⟩,h1,rfl⟩ | ⟨hk,⟨a,b,rfl,Kw,hob⟩,h1,rfl⟩
  ·refine Kj.E6 λq l hq => ?_
   show SF p l (dN n++q) (.ok (.mk 1 (norm n) [] []) q l)
   obtain⟨c,r,e,hc⟩:=NV hn h1
   have hs:yg (dN n++q)=c::(r++q):=by rw[e,List.cons_append,oy (z7F hc)]
   have:=z88 (d:=p) (l:=l) hs hc
   rw[show c::(r++q)=dN n++q by rw[e]; rfl,NN hn h1 p l hq]at this
   exact this
  ·refine Kj.E6 λq l hq => ?_
   show SF p l (s++q) (.ok (.mk 2 zQ s []) q l)
   obtain⟨_,_,c,r,e,hc⟩:=kz h1
   have hs:yg (s++q)=c::(r++q):=by rw[e,List.cons_append,oy (TU hc)]
   have:=SZ (d:=p) (l:=l) hs hc
   rw[show c::(r++q)=s++q by rw[e]; rfl,KW h1 l hq]at this
   exact this
  ·have hd:=H7 Kw
   have hp:p<=d:=hp
   have e0:xk (.mk 7 n [] [a])=1+(xk a+0):=rfl
   refine Kj.E6 λq l hq => ?_
   show SF p l ([45]++vO (decide (zr a.kind<3)) (prE a)++q) (.ok (bc 7 [canE a]) q l)
   rw[List.append_assoc]
   refine z6Q (oy (by decide)) (by omega) ?_
   refine MR (λh=>ih a (d+1) (p+1) (by omega) Kw ha.2.1 ?_) (λh=>⟨ih a (d+1) (p+1+1) (by omega) Kw ha.2.1 ?_,?_⟩) q l hq
   ·unfold KK; split<;>omega
   ·unfold KK; rw[if_pos h]; omega
   ·have:=VY Kw h; omega
  ·have e0:xk (.mk k n [] [a,b])=1+(xk a+(xk b+0)):=rfl
   have hd:=H7 Kw
   have hp:p<=d+1:=by
    have h:p<=KK d (.mk k n [] [a,b]):=hp
    unfold KK at h
    split at h<;>omega
   have ka0:Kj a p:=ih a (d+1) p (by omega) Kw ha.2.1 (by unfold KK; split<;>omega)
   have kb0:Kj b p:=ih b (d+1) p (by omega) hob ha.2.2.1 (by unfold KK; split<;>omega)
   have ka1:zr a.kind<3->Kj a (p+1)/\p<31:=λh=>⟨ih a (d+1) (p+1) (by omega) Kw ha.2.1 (by unfold KK; rw[if_pos h]; omega),by have:=VY Kw h; omega⟩
   have kb1:zr b.kind<3->Kj b (p+1)/\p<31:=λh=>⟨ih b (d+1) (p+1) (by omega) hob ha.2.2.1 (by unfold KK; rw[if_pos h]; omega),by have:=VY hob h; omega⟩
   -- z8j
   have z8j:∀ (c:UInt8) (k:Int),(c=43/\k=3)\/(c=45/\k=4)->∀ q l R,o9 q=true->xT [42,47] q=none->RS p (bc k [canE a,canE b]) q l R->SS p l (prE a++([32,c,32]++(vO (decide (zr b.kind<2)) (prE b)++q))) R:=by
    intro c k hck q l R hq ht hR
    have z7Y:c≠32:=by rcases hck with⟨rfl,_⟩ | ⟨rfl,_⟩<;>decide
    have hcm:[43,45].contains c=true:=by rcases hck with⟨rfl,_⟩ | ⟨rfl,_⟩<;>decide
    have hcp:[42,47].contains c=false:=by rcases hck with⟨rfl,_⟩ | ⟨rfl,_⟩<;>decide
    have MF:(if c=43 then(3:Int)else 4)=k:=by rcases hck with⟨rfl,rfl⟩ | ⟨rfl,rfl⟩<;>decide
    generalize hB:vO (decide (zr b.kind<2)) (prE b)++q=B
    have NP:yg ([32,c,32]++B)=c::32::B:=by
     show yg (32::c::32::B)=_
     rw[Ju,oy z7Y]
    have t1:xT [42,47] ([32,c,32]++B)=none:=by unfold xT; rw[NP]; dsimp only; rw[if_neg (by rw[hcp]; simp)]
    have t2:xT [43,45] ([32,c,32]++B)=some (c,32::B):=by unfold xT; rw[NP]; dsimp only; rw[if_pos hcm]
    refine ka0.sum _ l R rfl t1 (IC t2 (zdh (Le (λ_=>kb0) (λh=>kb1 (by omega)) q l _ hq (rL ht)) (by rw[Ju,hB])) ?_)
    rw[MF]
    exact DD hR
   have zaq:∀ (c:UInt8) (k:Int),(c=42/\k=5)\/(c=47/\k=6)->∀ q l R,o9 q=true->RP p (bc k [canE a,canE b]) q l R->SP p l (vO (decide (zr a.kind<2)) (prE a)++([32,c,32]++(vO (decide (zr b.kind<3)) (prE b)++q))) R:=by
    intro c k hck q l R hq hR
    have z7Y:c≠32:=by rcases hck with⟨rfl,_⟩ | ⟨rfl,_⟩<;>decide
    have hcp:[42,47].contains c=true:=by rcases hck with⟨rfl,_⟩ | ⟨rfl,_⟩<;>decide
    have MF:(if c=42 then(5:Int)else 6)=k:=by rcases hck with⟨rfl,rfl⟩ | ⟨rfl,rfl⟩<;>decide
    generalize hB:vO (decide (zr b.kind<3)) (prE b)++q=B
    have NP:yg ([32,c,32]++B)=c::32::B:=by
     show yg (32::c::32::B)=_
     rw[Ju,oy z7Y]
    have t2:xT [42,47] ([32,c,32]++B)=some (c,32::B):=by unfold xT; rw[NP]; dsimp only; rw[if_pos hcp]
    refine Le (λ_=>ka0) (λh=>ka1 (by omega)) _ l R rfl (LI t2 (zdw (MR (λ_=>kb0) kb1 q l hq) (by rw[Ju,hB])) ?_)
    rw[MF]
    exact hR
   have s1:∀ q:ze,decide (zr a.kind<1)=false:=λ_=>decide_eq_false (by have:=TQ a.kind; omega)
   rcases hk with rfl | rfl | rfl | rfl
   ·refine⟨λq l R hq ht hR => ?_,λh=>absurd h (show ¬ 2<=zr 3 by decide),λh=>absurd h (show ¬ 3<=zr 3 by decide)⟩
    have:=z8j 43 3 (.inl ⟨rfl,rfl⟩) q l R hq ht hR
    show SS p l (vO (decide (zr a.kind<1)) (prE a)++[32,43,32]++vO (decide (zr b.kind<2)) (prE b)++q) R
    rw[s1 [],List.append_assoc,List.append_assoc]
    exact this
   ·refine⟨λq l R hq ht hR => ?_,λh=>absurd h (show ¬ 2<=zr 4 by decide),λh=>absurd h (show ¬ 3<=zr 4 by decide)⟩
    have:=z8j 45 4 (.inr ⟨rfl,rfl⟩) q l R hq ht hR
    show SS p l (vO (decide (zr a.kind<1)) (prE a)++[32,45,32]++vO (decide (zr b.kind<2)) (prE b)++q) R
    rw[s1 [],List.append_assoc,List.append_assoc]
    exact this
   ·refine Kj.Pr (show zr 5<=2 by decide) λq l R hq hR => ?_
    have:=zaq 42 5 (.inl ⟨rfl,rfl⟩) q l R hq hR
    show SP p l (vO (decide (zr a.kind<2)) (prE a)++[32,42,32]++vO (decide (zr b.kind<3)) (prE b)++q) R
    rw[List.append_assoc,List.append_assoc]
    exact this
   ·refine Kj.Pr (show zr 6<=2 by decide) λq l R hq hR => ?_
    have:=zaq 47 6 (.inr ⟨rfl,rfl⟩) q l R hq hR
    show SP p l (vO (decide (zr a.kind<2)) (prE a)++[32,47,32]++vO (decide (zr b.kind<3)) (prE b)++q) R
    rw[List.append_assoc,List.append_assoc]
    exact this
theorem rdE(e:Expr)(p:Nat)(h:xB p e=true)(ha:allOk e):Kj e p:=z7U (xk e) e p p (Nat.le_refl _) h ha (by unfold KK; split<;>omega)
theorem fN{n:Rat}(h:xD n=true):norm n=norm zQ:=by
 unfold xD at h
 simp only[Bool.and_eq_true,List.isEmpty_iff]at h
 have:nv n.2.1=0:=by rw[h.2.1]; rfl
 unfold norm
 have z:∀ b d,wM b 0 d=(false,[],[1],()):=λb d=>by unfold wM; rw[if_pos (.inl rfl)]
 rw[this,z,show nv zQ.2.1=0 from rfl,z]
structure zbO(d:Nat)(e:Expr):Prop where
 ok:xB d (canE e)=true
 same:sameE e (canE e)=true
 pr:prE (canE e)=prE e
 kind:(canE e).kind=e.kind
 nd:xk (canE e)=xk e
 cj:kP (canE e)
 sz:szE (canE e)<=szE e
 len:(prE e).length<=410*xk e
theorem UO{d:Nat}{k:Int}{n:Rat}{s:ze}{l:List Expr}(h1:d<32)(h2:vR (.mk k n s l)=true)(h3:ub (d+1) l=true):xB d (.mk k n s l)=true:=by
 show(decide (d<32)&&(vR (.mk k n s l)&&ub (d+1) l))=true
 rw[decide_eq_true h1,h2,h3]; rfl
theorem Gv(k:Int)(n:Rat)(s:ze)(l:List Expr):prE (.mk k n s l)=if k=1 then(qs (norm n).1 (nv (norm n).2.1) (nv (norm n).2.2.1) 0 61).1 else if k=2 then s else gD k (prL l):=rfl
theorem HI(n:Rat)(s:ze)(l:List Expr):prE (.mk 2 n s l)=s:=by
 rw[Gv,if_neg (by decide),if_pos rfl]
theorem GB(n:Rat)(s:ze)(a:Expr):prE (.mk 7 n s [a])=[45]++vO (decide (zr a.kind<3)) (prE a):=by
 rw[Gv,if_neg (by decide),if_neg (by decide)]; rfl
theorem z1W:∀ (m:Nat) (e:Expr) (d:Nat),xk e<=m->xB d e=true->allOk e->zbO d e:=by
 intro m
 induction m with
 | zero=>intro e d hm; have:=QM e; omega
 | succ m ih =>
  intro e d hm ho ha
  have hd:=H7 ho
  cases e with | mk k n s l =>
  have hn:=ha.1
  rcases V6 ho with⟨rfl,rfl,h1,rfl⟩ | ⟨rfl,rfl,h1,h2⟩ | ⟨rfl,⟨a,rfl,Kw⟩,h1,rfl⟩ | ⟨hk,⟨a,b,rfl,Kw,hob⟩,h1,rfl⟩
  ·have hnn:=dy hn (iV h1).1
   have e1:canE (.mk 1 n [] [])=.mk 1 n [] []:=by
    show Expr.mk 1 (norm n) [] []=_
    rw[hnn]
   have hl:=(mF hn h1).2.1
   refine⟨by rw[e1]; exact ho,by rw[e1]; exact yv _,by rw[e1],by rw[e1],by rw[e1],by rw[e1]; exact dF 1 n [] hn (by simp),by rw[e1]; exact Nat.le_refl _,?_⟩
   have e2:xk (.mk 1 n [] [])=1:=rfl
   have e3:prE (.mk 1 n [] [])=dN n:=rfl
   rw[e2,e3]
   omega
  ·have e1:canE (.mk 2 n s [])=.mk 2 zQ s []:=rfl
   have hl:=(kz h1).1
   refine⟨?_,?_,by rw[e1,HI,HI],rfl,rfl,dF 2 zQ s j8 hl,?_,?_⟩
   ·rw[e1]
    refine UO hd ?_ rfl
    show((((0:Nat):Int)==dW 2)&&(xD zQ&&zG s))=true
    rw[h1]; rfl
   ·rw[e1]
    show(((2:Int)==2)&&(zh s s&&(cx n zQ&&true)))=true
    rw[nC,rK.2 (fN h2)]; rfl
   ·have e2:szE (.mk 2 n s [])=3+s.length+8*n.2.1.length+8*n.2.2.1.length+0:=rfl
    have e3:szE (canE (.mk 2 n s []))=3+s.length+0+0+0:=rfl
    rw[e2,e3]
    omega
   ·have e2:xk (.mk 2 n s [])=1:=rfl
    have e3:=HI n s []
    rw[e2,e3]
    omega
  ·have e0:xk (.mk 7 n [] [a])=1+(xk a+0):=rfl
   have ka:=ih a (d+1) (by omega) Kw ha.2.1
   refine⟨?_,?_,?_,rfl,?_,UQ 7 ka.cj,?_,?_⟩
   ·refine UO hd rfl ?_
    show(xB (d+1) (canE a)&&true)=true
    rw[ka.ok]; rfl
   ·show(((7:Int)==7)&&(zh [] []&&(cx n zQ&&(sameE a (canE a)&&true))))=true
    rw[nC,rK.2 (fN h1),ka.same]; rfl
   ·rw[show canE (.mk 7 n [] [a])=.mk 7 zQ [] [canE a]from rfl,GB,GB,ka.pr,ka.kind]
   ·show 1+(xk (canE a)+0)=1+(xk a+0)
    rw[ka.nd]
   ·have:=ka.sz
    have e2:szE (.mk 7 n [] [a])=3+0+8*n.2.1.length+8*n.2.2.1.length+(szE a+0):=rfl
    have e3:szE (canE (.mk 7 n [] [a]))=3+0+0+0+(szE (canE a)+0):=rfl
    rw[e2,e3]
    omega
   ·have:=ka.len
    have hp:=vH (decide (zr a.kind<3)) (prE a)
    have e3:=GB n [] a
    rw[e0,e3,List.length_append,List.length_singleton]
    omega
  ·have e0:xk (.mk k n [] [a,b])=1+(xk a+(xk b+0)):=rfl
   have ka:=ih a (d+1) (by omega) Kw ha.2.1
   have kb:=ih b (d+1) (by omega) hob ha.2.2.1
   have k1:k≠1:=by omega
   have k2:k≠2:=by omega
   have e1:canE (.mk k n [] [a,b])=bc k [canE a,canE b]:=by
    show(if k=1 then _ else if k=2 then _ else bc k (canL [a,b]))=_
    rw[if_neg k1,if_neg k2]; rfl
   have p1:∀ (n:Rat) (a b:Expr),prE (.mk k n [] [a,b])=vO (decide (zr a.kind<zr k)) (prE a)++ta k++vO (decide (zr b.kind<zr k+1)) (prE b):=by
    intro n a b
    rw[Gv,if_neg k1,if_neg k2]; rfl
   refine⟨?_,?_,?_,by rw[e1]; rfl,?_,by rw[e1]; exact J7 k ka.cj kb.cj,?_,?_⟩
   ·rw[e1]
    refine UO hd ?_ ?_
    ·rcases hk with rfl | rfl | rfl | rfl<;>rfl
    ·show(xB (d+1) (canE a)&&(xB (d+1) (canE b)&&true))=true
     rw[ka.ok,kb.ok]; rfl
   ·rw[e1]
    show((k==k)&&(zh [] []&&(cx n zQ&&(sameE a (canE a)&&(sameE b (canE b)&&true)))))=true
    rw[nC,rK.2 (fN h1),ka.same,kb.same]; simp
   ·rw[e1]
    show prE (.mk k zQ [] [canE a,canE b])=_
    rw[p1,p1,ka.pr,kb.pr,ka.kind,kb.kind]
   ·rw[e1,nd2,ka.nd,kb.nd,e0]; omega
   ·rw[e1]
    have:=ka.sz
    have:=kb.sz
    have e2:szE (.mk k n [] [a,b])=3+0+8*n.2.1.length+8*n.2.2.1.length+(szE a+(szE b+0)):=rfl
    have e3:szE (bc k [canE a,canE b])=3+0+0+0+(szE (canE a)+(szE (canE b)+0)):=rfl
    rw[e2,e3]
    omega
   ·rw[p1,e0,List.length_append,List.length_append]
    have:=ka.len
    have:=kb.len
    have:=vH (decide (zr a.kind<zr k)) (prE a)
    have:=vH (decide (zr b.kind<zr k+1)) (prE b)
    have:=rW k
    omega
theorem LC(e:Expr)(d:Nat)(ho:xB d e=true)(ha:allOk e):zbO d e:=z1W (xk e) e d (Nat.le_refl _) ho ha
theorem YG{e:Expr}(h:Gb e=true):xB 0 e=true/\xk e<=256:=by
 unfold Gb at h
 rw[Bool.and_eq_true,decide_eq_true_eq]at h
 exact h
theorem z1N{e:Expr}(h:Gb e=true)(ha:allOk e):Gb (canE e)=true:=by
 obtain⟨h1,h2⟩:=YG h
 have:=LC e 0 h1 ha
 unfold Gb
 rw[this.ok,this.nd,decide_eq_true h2]; rfl
theorem Ns{s:ze}{e:Expr}{a:Int}(h:qy s=(e,(a,(0:Int)))):Gb e=true:=by
 unfold qy CR at h
 split at h
 ·rename_i c
  injection h with _ h
  injection h with _ h
  exact absurd h c
 ·split at h
  ·injection h with _ h
   injection h with _ h
   exact absurd h (by decide)
  ·rename_i c
   injection h with h _
   rw[<- h]
   cases q:Gb (oo s (mg zQ s)).1 with
   | true=>rfl
   | false=>exact absurd (.inr q) c
theorem z7s{n:Rat}(hn:uK n)(h:wY n=true):8*n.2.1.length+8*n.2.2.1.length<=256:=by
 obtain⟨h1,h2,h3,h4⟩:=iV h
 have e:=dy hn h1
 unfold um at h3
 rw[e,Bool.or_eq_false_iff,decide_eq_false_iff_not,decide_eq_false_iff_not]at h3
 omega
theorem Hq{n:Rat}(hn:uK n)(h:xD n=true):8*n.2.1.length+8*n.2.2.1.length<=256:=by
 have h0:=h
 unfold xD at h
 simp only[Bool.and_eq_true,Bool.or_eq_true,List.isEmpty_iff]at h
 obtain⟨_,h2,h3⟩:=h
 rcases h3 with h3 | h3
 ·rw[h2,h3]; simp
 ·have e:=dy hn h3
  have e2:=fN h0
  rw[e]at e2
  rw[e2]
  decide +kernel
theorem zdb:∀ (m:Nat) (e:Expr) (d:Nat),xk e<=m->xB d e=true->allOk e->szE e<=283*xk e:=by
 intro m
 induction m with
 | zero=>intro e d hm; have:=QM e; omega
 | succ m ih =>
  intro e d hm ho ha
  cases e with | mk k n s l =>
  have hn:=ha.1
  rcases V6 ho with⟨rfl,rfl,h1,rfl⟩ | ⟨rfl,rfl,h1,h2⟩ | ⟨rfl,⟨a,rfl,Kw⟩,h1,rfl⟩ | ⟨hk,⟨a,b,rfl,Kw,hob⟩,h1,rfl⟩
  ·have:=z7s hn h1
   simp only[szE,szEs,xk,wz,List.length_nil]; omega
  ·have:=Hq hn h2
   have:=(nt h1).1
   simp only[szE,szEs,xk,wz]; omega
  ·have e1:xk (.mk 7 n [] [a])=1+(xk a+0):=rfl
   have:=Hq hn h1
   have:=ih a _ (by omega) Kw ha.2.1
   simp only[szE,szEs,List.length_nil]; omega
  ·have e1:xk (.mk k n [] [a,b])=1+(xk a+(xk b+0)):=rfl
   have:=Hq hn h1
   have:=ih a _ (by omega) Kw ha.2.1
   have:=ih b _ (by omega) hob ha.2.2.1
   simp only[szE,szEs,List.length_nil]; omega
theorem SA{e:Expr}(h:Gb e=true)(ha:allOk e):w6 e:=by
 obtain⟨h1,h2⟩:=YG h
 have:=zdb _ e 0 (Nat.le_refl _) h1 ha
 exact⟨by omega,h2,ha⟩
theorem Vu(s:ze):w6 (qy s).1:=by
 have hg:=(Bt s).1.1
 by_cases h:(qy s).2.2=0
 ·refine SA (Ns (s:=s) (a:=(qy s).2.1) ?_) hg
  rw[<- h]
 ·have e:(qy s).1=zE:=by
   unfold qy CR at h ⊢
   split
   ·rfl
   ·split
    ·rfl
    ·rename_i c1 c2
     rw[if_neg c1,if_neg c2]at h
     exact absurd rfl h
  rw[e]
  exact rB (by decide) WW.1
def qO(s:ze):Expr×Expr×Int×Int:=match yH s with
 | none=>(zE,(zE,((0:Int),(2:Int))))
 | some (l,c,r)=>if(qy l).2.2≠0 then(zE,(zE,((0:Int),(qy l).2.2)))else((qy l).1,((qy r).1,(c,(qy r).2.2)))
abbrev gA:=List Switch×List Param×List xj×List Field×List qH×List Check
def xE:gA:=([],[],[],[],[],[])
def wd(l:List ze)(k:Nat):ze:=nth l (k:Int) (zk .str)
def Ya(l:List ze):Int×gA:=if l.length=3/\zG (wd l 1)=true/\(zh (wd l 2) [111,110]=true\/zh (wd l 2) [111,102,102]=true)
 then(0,[(wd l 1,(zh (wd l 2) [111,110],()))],[],[],[],[],[])else(2,xE)
def tp(s:ze):Option Rat:=if 400<s.length then none else match pn s with | some (n,d)=>some (wM (List.isPrefixOf [45] s) n d) | none=>none
def WN(l:List ze):Int×gA:=if l.length=3/\zG (wd l 1)=true then(match tp (wd l 2)with | some r=>(0,[],[(wd l 1,(r,()))],[],[],[],[]) | none=>(2,xE))else(2,xE)
def Vc(l:List ze):Int×gA:=if 2<=l.length/\zG (wd l 1)=true/\(UF l 2).2=true then(0,[],[],[(wd l 1,((UF l 2).1,()))],[],[],[])else(2,xE)
def dZ(w:List ze):Bool:=match w with | x::_=>zh x [109,117,115,116] | []=>false
def iJ(w:List ze):Option Int:=match w with
 | []=>some 0
 | [a,[c]]=>if zh a [115,99,97,108,101]=true/\48<=c.toNat/\c.toNat<=57 then some ((c.toNat:Int)-48)else none
 | _=>none
def ye(l:List ze):List ze:=if dZ (l.drop 2)=true then l.drop 3 else l.drop 2
def Ji(np:Nat)(l:List ze):Int×gA:=if 2<=l.length/\zG (wd l 1)=true/\np≠0
 then(match iJ (ye l)with | some k=>(0,[],[],[],[(wd l 1,((np:Int)-1,(dZ (l.drop 2),(k,()))))],[],[]) | none=>(2,xE))else(2,xE)
def GZ(s:ze):Int:=PL.Z9 (λt=>zh s t) 0 [[114,101,113,117,105,114,101,100],[115,116,114,111,110,103],[109,101,100,105,117,109],[119,101,97,107]]
def DR(np:Nat)(l:List ze)(rest:ze):Int×gA:=if l.length=2/\zG (wd l 1)=true/\np≠0
 then((qO rest).2.2.2,[],[],[],[],[],[(wd l 1,((np:Int)-1,((qO rest).2.2.1,((qO rest).1,((qO rest).2.1,())))))])else(2,xE)
def K5(l:List ze)(rest:ze):Int×gA:=if 3<=l.length/\0<=GZ (wd l 1)/\zG (wd l 2)=true/\(UF l 3).2=true
 then(if(qO rest).2.2.2=0/\(qO rest).2.2.1≠0 then(2,xE)else((qO rest).2.2.2,[],[],[],[],[(wd l 2,(GZ (wd l 1),((UF l 3).1,((qO rest).1,((qO rest).2.1,())))))],[]))else(2,xE)
theorem z4w{n:Nat}(h:0<n):qw (0:Int) n:=⟨Int.le_refl _,by omega⟩
theorem fA{n:Nat}(h:1<n):qw (1:Int) n:=⟨by decide,by omega⟩
theorem Dj{n:Nat}(h:2<n):qw (2:Int) n:=⟨by decide,by omega⟩
theorem HK(l:List ze)(xs:List Switch)(b8:List Param)(vQ:List xj)(cG:List Field)(cD:List qH)(cK:List Check)(hx:xs.length<=1000000) :
  (uR l () xs b8 vQ cG cD cK).run=some (decide ((Ya l).1=0),((),(xs++(Ya l).2.1,(b8,(vQ,(cG,(cD,cK))))))):=by
 unfold uR Ya
 by_cases c1:l.length=3
 ·refine(z6 (a:=(!(zG (wd l 1)&&(zh (wd l 2) [111,110]||zh (wd l 2) [111,102,102])),((),(xs,(b8,(vQ,(cG,(cD,cK)))))))) ?_ _).trans ?_
  ·rw[z8 (by rw[c1]; rfl),zb (fA (by omega)),z6 (xG _)]
   show(T.ite (!zG (wd l 1)) _ _).run=_
   cases zG (wd l 1)with
   | false=>rw[za (by rfl)]; simp only[zq,T.zi,zo,z7]; rfl
   | true =>
    rw[z8 (by rfl),zb (Dj (by omega))]
    show(T.ite (!zh (wd l 2) [111,110]) _ _).run=_
    cases zh (wd l 2) [111,110]with
    | true=>rw[z8 (by rfl)]; simp only[zq,T.zi,zo,z7]; rfl
    | false=>rw[za (by rfl),zb (Dj (by omega))]; simp only[zq,T.zi,zo,z7]; rfl
  ·dsimp only
   by_cases q:zG (wd l 1)=true/\(zh (wd l 2) [111,110]=true\/zh (wd l 2) [111,102,102]=true)
   ·rw[if_pos ⟨c1,q⟩,z8 (by rw[q.1]; rcases q.2 with h | h<;>simp[h]),zb (fA (by omega)),zb (Dj (by omega)),mK _ rfl rfl rfl (by omega)]
    simp only[List.length_append,List.length_singleton,zq,T.zi,zo,z7]
    rfl
   ·rw[if_neg (λh=>q h.2),za]
    ·simp only[zq,T.zi,zo,z7]
     show _=some (false,((),(xs++[],_)))
     rw[List.append_nil]
    ·cases h1:zG (wd l 1)<;>cases h2:zh (wd l 2) [111,110]<;>cases h3:zh (wd l 2) [111,102,102]<;>simp[h1,h2,h3]at q<;>rfl
 ·refine(z6 (a:=(true,((),(xs,(b8,(vQ,(cG,(cD,cK)))))))) ?_ _).trans ?_
  ·rw[za (by rw[bne_iff_ne]; omega)]
   simp only[zq,T.zi,zo,z7]
  ·dsimp only
   rw[if_neg (λh=>c1 h.1),zj]
   simp only[zq,T.zi,zo,z7]
   show _=some (false,((),(xs++[],_)))
   rw[List.append_nil]
theorem Zr(s:ze)(hs:s.length<=1000000000):∃ r e,(wu s).run=some (r,e)/\(match tp s with | some q=>r=q/\e=0 | none=>e≠0):=by
 have h:=bT s hs
 unfold tp
 by_cases c:400<s.length
 ·rw[if_pos c]at h ⊢
  exact⟨_,_,h,by decide⟩
 ·rw[if_neg c]at h ⊢
  cases q:pn s with
  | none=>rw[q]at h; exact⟨_,_,h,show(2:Int)≠0 by decide⟩
  | some p=>rw[q]at h; exact⟨_,_,h,rfl,rfl⟩
theorem Bl(l:List ze)(xs:List Switch)(b8:List Param)(vQ:List xj)(cG:List Field)(cD:List qH)(cK:List Check)(hx:b8.length<=1000000)(hl:∀ s∈l,s.length<=1000000) :
  ∃ Q,(uf l () xs b8 vQ cG cD cK).run=some (decide ((WN l).1=0),((),(xs,(b8++Q,(vQ,(cG,(cD,cK)))))))/\((WN l).1=0->Q=(WN l).2.2.1):=by
 by_cases c1:l.length=3/\zG (wd l 1)=true
 ·obtain⟨r,e,h1,h2⟩:=Zr (wd l 2) (by have:=hl _ (bP (l:=l) (i:=2) (d:=zk .str) (by omega) (by omega)); exact Nat.le_trans this (by omega))
  have h1:(wu (nth l 2 (zk .str))).run=some (r,e):=h1
  refine⟨[(wd l 1,(r,()))],?_,?_⟩
  ·unfold uf
   refine(z6 (a:=(false,((),(xs,(b8,(vQ,(cG,(cD,cK)))))))) ?_ _).trans ?_
   ·rw[z8 (by rw[c1.1]; rfl),zb (fA (by omega)),z6 (xG _)]
    simp only[zq,T.zi,zo,z7]
    show some (!zG (wd l 1),_)=_
    rw[c1.2]; rfl
   ·dsimp only
    rw[zg,zb (Dj (by omega)),z6 h1]
    dsimp only
    rw[zb (fA (by omega)),mK _ rfl rfl rfl (by omega)]
    simp only[List.length_append,List.length_singleton,zq,T.zi,zo,z7]
    have:(e==(0:Int))=decide ((WN l).1=0):=by
     unfold WN
     rw[if_pos c1]
     cases hd:tp (wd l 2)with
     | none=>rw[hd]at h2; rw[decide_eq_false (show ¬ (2:Int)=0 by decide)]; simpa using h2
     | some q=>rw[hd]at h2; rw[h2.2]; rfl
    rw[this]
    rfl
  ·intro h0
   unfold WN at h0 ⊢
   rw[if_pos c1]at h0 ⊢
   cases hd:tp (wd l 2)with
   | none=>rw[hd]at h0; exact absurd h0 (show ¬ (2:Int)=0 by decide)
   | some q=>rw[hd]at h2; rw[h2.1]
 ·have e2:WN l=(2,xE):=by unfold WN; rw[if_neg c1]
  refine⟨[],?_,λh=>by rw[e2]at h; exact absurd h (by decide)⟩
  unfold uf
  rw[e2,List.append_nil]
  refine(z6 (a:=(true,((),(xs,(b8,(vQ,(cG,(cD,cK)))))))) ?_ _).trans ?_
  ·by_cases k:l.length=3
   ·have hn:zG (wd l 1)=false:=by
     cases h:zG (wd l 1)with
     | false=>rfl
     | true=>exact absurd ⟨k,h⟩ c1
    rw[z8 (by rw[k]; rfl),zb (fA (by omega)),z6 (xG _)]
    simp only[zq,T.zi,zo,z7]
    show some (!zG (wd l 1),_)=_
    rw[hn]; rfl
   ·rw[za (by rw[bne_iff_ne]; omega)]
    simp only[zq,T.zi,zo,z7]
  ·dsimp only
   rw[zj]
   simp only[zq,T.zi,zo,z7]
   rfl
theorem GN(l:List ze)(xs:List Switch)(b8:List Param)(vQ:List xj)(cG:List Field)(cD:List qH)(cK:List Check)(hx:vQ.length<=1000000) :
  ∃ Q,(vF l () xs b8 vQ cG cD cK).run=some (decide ((Vc l).1=0),((),(xs,(b8,(vQ++Q,(cG,(cD,cK)))))))/\((Vc l).1=0->Q=(Vc l).2.2.2.1):=by
 by_cases c1:2<=l.length/\zG (wd l 1)=true
 ·have hg:(jR l (2:Int)).run=some ((UF l 2).1,(UF l 2).2):=W5 l 2 (by decide)
  refine⟨[(wd l 1,((UF l 2).1,()))],?_,?_⟩
  ·unfold vF
   refine(z6 (a:=(false,((),(xs,(b8,(vQ,(cG,(cD,cK)))))))) ?_ _).trans ?_
   ·rw[z8 (decide_eq_false (by omega)),zb (fA (by omega)),z6 (xG _)]
    simp only[zq,T.zi,zo,z7]
    show some (!zG (wd l 1),_)=_
    rw[c1.2]; rfl
   ·dsimp only
    rw[zg,z6 hg]
    dsimp only
    rw[zb (fA (by omega)),mK _ rfl rfl rfl (by omega)]
    simp only[List.length_append,List.length_singleton,zq,T.zi,zo,z7]
    have:(UF l 2).2=decide ((Vc l).1=0):=by
     unfold Vc
     cases(UF l 2).2 with
     | false=>rw[if_neg (λh=>by have:=h.2.2; cases this),decide_eq_false (by decide)]
     | true=>rw[if_pos ⟨c1.1,c1.2,rfl⟩]; rfl
    rw[this]
    rfl
  ·intro h0
   unfold Vc at h0 ⊢
   split at h0
   ·rename_i h; rw[if_pos h]
   ·exact absurd h0 (by decide)
 ·have e2:Vc l=(2,xE):=by unfold Vc; rw[if_neg (λh=>c1 ⟨h.1,h.2.1⟩)]
  refine⟨[],?_,λh=>by rw[e2]at h; exact absurd h (by decide)⟩
  unfold vF
  rw[e2,List.append_nil]
  refine(z6 (a:=(true,((),(xs,(b8,(vQ,(cG,(cD,cK)))))))) ?_ _).trans ?_
  ·by_cases k:2<=l.length
   ·have hn:zG (wd l 1)=false:=by
     cases h:zG (wd l 1)with
     | false=>rfl
     | true=>exact absurd ⟨k,h⟩ c1
    rw[z8 (decide_eq_false (by omega)),zb (fA (by omega)),z6 (xG _)]
    simp only[zq,T.zi,zo,z7]
    show some (!zG (wd l 1),_)=_
    rw[hn]; rfl
   ·rw[za (decide_eq_true (by omega))]
    simp only[zq,T.zi,zo,z7]
  ·dsimp only
   rw[zj]
   simp only[zq,T.zi,zo,z7]
   rfl
theorem To(c k:UInt8):strLt [c] [k]=decide (c.toNat<k.toNat):=by
 show Op.bytesLess [c] [k]=_
 unfold Op.bytesLess
 by_cases h:c.toNat<k.toNat
 ·rw[decide_eq_true h]; simp[Op.bytesLess,UInt8.lt_iff_toNat_lt,h]
 ·rw[decide_eq_false h]; simp[Op.bytesLess,UInt8.lt_iff_toNat_lt,h]
theorem G6{e:Ty}(l:List (den e))(k:Nat):va (e:=e) (k:Int) ((l.length:Nat):Int) l=l.drop k:=by unfold va; simp only[Int.toNat_natCast,List.take_length]
def P7(w:List ze):Option Int:=match w with
 | [a,[c]]=>if zh a [115,99,97,108,101]=true/\48<=c.toNat/\c.toNat<=57 then some ((c.toNat:Int)-48)else none
 | _=>none
theorem Ma(a:ze)(c:UInt8):P7 [a,[c]]=if zh a [115,99,97,108,101]=true/\48<=c.toNat/\c.toNat<=57 then some ((c.toNat:Int)-48)else none:=rfl
theorem VX:∀ (x:ze) (r:List ze),iJ (x::r)=P7 (x::r)
 | _,[]=>rfl
 | _,[[]]=>rfl
 | _,[[_]]=>rfl
 | _,[_::_::_]=>rfl
 | _,[]::_::_=>rfl
 | _,[_]::_::_=>rfl
 | _,(_::_::_)::_::_=>rfl
theorem z3l(l:List ze)(n k:Nat)(s:ze)(h:k<n):(wa l (n:Int) (k:Int) s).run=some (decide (l.length=n)&&zh (wd l k) s):=by
 unfold wa
 rw[zb (λh1=>qf (by rw[beq_iff_eq]at h1; omega)),z7]
 have:(((l.length:Nat):Int)==(n:Int))=decide (l.length=n):=by rw[Bool.eq_iff_iff,beq_iff_eq,decide_eq_true_eq]; omega
 rw[this]; rfl
theorem Kt(l:List ze)(xs:List Switch)(b8:List Param)(vQ:List xj)(cG:List Field)(cD:List qH)(cK:List Check)(hx:cG.length<=1000000)(FI:vQ.length<=1000000) :
  ∃ Q,(ue l () xs b8 vQ cG cD cK).run=some (decide ((Ji vQ.length l).1=0),((),(xs,(b8,(vQ,(cG++Q,(cD,cK)))))))/\((Ji vQ.length l).1=0->Q=(Ji vQ.length l).2.2.2.2.1):=by
 by_cases c1:2<=l.length/\zG (wd l 1)=true/\vQ.length≠0
 ·have hw:zF (((vQ.length:Nat):Int)-1)=(vQ.length:Int)-1:=zA (by omega) (by omega)
  have d2:va (e:=.str) (2:Int) ((l.length:Nat):Int) l=l.drop 2:=G6 (e:=.str) l 2
  have d3:va (e:=.str) (1:Int) (((l.drop 2).length:Nat):Int) (l.drop 2)=l.drop 3:=by
   rw[show l.drop 3=(l.drop 2).drop 1 by rw[List.drop_drop]]
   exact G6 (e:=.str) (l.drop 2) 1
  refine⟨[(wd l 1,((vQ.length:Int)-1,(dZ (l.drop 2),((P7 (ye l)).getD 0,()))))],?_,?_⟩
  ·unfold ue
   refine(z6 (a:=(false,((),(xs,(b8,(vQ,(cG,(cD,cK)))))))) ?_ _).trans ?_
   ·rw[z8 (decide_eq_false (by omega)),zb (fA (by omega)),z6 (xG _)]
    show(T.ite (!zG (wd l 1)) _ _).run=_
    rw[c1.2.1,z8 (by rfl)]
    simp only[zq,T.zi,zo,z7]
    rw[beq_eq_false_iff_ne.2 (by omega)]
   ·dsimp only
    rw[zg,zb (fA (by omega)),zb (bZ.2 ⟨by omega,by omega,by omega⟩),d2,hw]
    refine(z6 (a:=(ye l,((),(xs,(b8,(vQ,(cG,(cD,(cK,(wd l 1,((vQ.length:Int)-1,(dZ (l.drop 2),((0:Int),())))))))))))) ) ?_ _).trans ?_
    ·have hm:(decide ((0:Int)<(((l.drop 2).length:Nat):Int))&&zh (nth (l.drop 2) (0:Int) (zk .str)) ([109,117,115,116]:ze))=dZ (l.drop 2):=by
      unfold dZ
      cases l.drop 2 with
      | nil=>rfl
      | cons x r=>rw[decide_eq_true (by rw[List.length_cons]; omega)]; rfl
     rw[zb (λh=>z4w (by have:=of_decide_eq_true h; omega)),hm]
     unfold ye
     cases q:dZ (l.drop 2)with
     | true =>
      have hp:0<(l.drop 2).length:=by
       cases h:l.drop 2 with
       | nil=>rw[h]at q; cases q
       | cons=>simp
      rw[zj,zb (bZ.2 ⟨by omega,by omega,by omega⟩),d3]
      simp only[zq,T.zi,zo,z7]
      rfl
     | false =>
      rw[zg]
      simp only[zq,T.zi,zo,z7]
      rfl
    ·dsimp only
     refine(z6 (a:=((match P7 (ye l)with | some _=>[] | none=>ye l),((),(xs,(b8,(vQ,(cG,(cD,(cK,(wd l 1,((vQ.length:Int)-1,(dZ (l.drop 2),((P7 (ye l)).getD 0,())))))))))))) ) ?_ _).trans ?_
     ·refine(z6 (a:=((P7 (ye l)).isSome,((),(xs,(b8,(vQ,(cG,(cD,(cK,(wd l 1,((vQ.length:Int)-1,(dZ (l.drop 2),((0:Int),())))))))))))) ) ?_ _).trans ?_
      ·have hk:(wa (ye l) (2:Int) (0:Int) ([115,99,97,108,101]:ze)).run=some (decide ((ye l).length=2)&&zh (wd (ye l) 0) [115,99,97,108,101]):=z3l (ye l) 2 0 _ (by decide)
       rw[z6 hk]
       generalize ye l=w
       by_cases k:w.length=2/\zh (wd w 0) [115,99,97,108,101]=true
       ·rw[za (by rw[decide_eq_true k.1,k.2]; rfl),zb (fA (by omega))]
        match w,k with
        | [a,[]],k=>rw[z8 (by rfl)]; simp only[zq,T.zi,zo,z7]; rfl
        | [a,x::y::r],k =>
         rw[z8 (by rw[beq_eq_false_iff_ne]; show((List.length (x::y::r):Nat):Int)≠1; rw[List.length_cons,List.length_cons]; omega)]
         simp only[zq,T.zi,zo,z7]; rfl
        | [a,[c]],k =>
         have ha:zh a [115,99,97,108,101]=true:=k.2
         have e1:strLt (nth [a,[c]] (1:Int) (zk .str)) [48]=decide (c.toNat<48):=To c 48
         have e2:strLt (nth [a,[c]] (1:Int) (zk .str)) [57]=decide (c.toNat<57):=To c 57
         have e3:zh (nth [a,[c]] (1:Int) (zk .str)) [57]=decide (c.toNat=57):=by
          show zh [c] [57]=_
          rw[xP]
          by_cases h:c=57
          ·subst h; rfl
          ·rw[decide_eq_false (λq=>h (by injection q)),decide_eq_false (show ¬ c.toNat=57 from λq=>h (UInt8.toNat_inj.1 q))]
         rw[za (by rfl),zb (fA (by simp)),e1]
         by_cases g1:c.toNat<48
         ·rw[decide_eq_true g1,z8 (by rfl)]
          simp only[zq,T.zi,zo,z7]
          rw[Ma,if_neg (λh=>by have:=h.2.1; omega)]; rfl
         ·rw[decide_eq_false g1,za (by rfl),zb (fA (by simp)),e2,e3]
          simp only[zq,T.zi,zo,z7]
          rw[Ma]
          by_cases g2:c.toNat<=57
          ·rw[if_pos ⟨ha,by omega,g2⟩]
           have:(decide (c.toNat<57)||decide (c.toNat=57))=true:=by
            rw[Bool.or_eq_true,decide_eq_true_eq,decide_eq_true_eq]; omega
           rw[this]; rfl
          ·rw[if_neg (λh=>g2 h.2.2),decide_eq_false (by omega),decide_eq_false (by omega)]; rfl
       ·have hs:P7 w=none:=by
         unfold P7
         split
         ·rename_i a c
          rw[if_neg (λh=>k ⟨rfl,h.1⟩)]
         ·rfl
        rw[z8 (by
         by_cases g:w.length=2
         ·rw[decide_eq_true g,Bool.true_and]
          cases h:zh (wd w 0) [115,99,97,108,101]with
          | false=>rfl
          | true=>exact absurd ⟨g,h⟩ k
         ·rw[decide_eq_false g]; rfl),hs]
        simp only[zq,T.zi,zo,z7]
        rfl
      ·dsimp only
       generalize ye l=w
       cases q:P7 w with
       | none =>
        show(T.ite false _ _).run=_
        rw[zg]
        simp only[zq,T.zi,zo,z7]
        rfl
       | some v =>
        show(T.ite true _ _).run=_
        unfold P7 at q
        split at q
        ·rename_i a c
         split at q
         ·rename_i h
          injection q with q
          have e4:zF (Bg (qo (nth [a,[c]] (1:Int) (zk .str)) (0:Int)-48))=v:=by
           show zF (Bg ((c.toNat:Int)-48))=v
           have:=h.2.1
           have:=h.2.2
           rw[Gq (by omega) (by omega),zA (by omega) (by omega)]
           exact q
          rw[zj,zb (fA (by simp)),zb (z4w (by show 0<List.length [c]; simp)),e4]
          simp only[zq,T.zi,zo,z7]
          rfl
         ·cases q
        ·cases q
     ·dsimp only
      rw[mK _ rfl rfl rfl (by omega)]
      simp only[List.length_append,List.length_singleton,zq,T.zi,zo,z7]
      congr 2
      unfold Ji
      rw[if_pos c1]
      generalize ye l=w
      cases q:P7 w with
      | some v =>
       cases w with
       | nil=>cases q
       | cons x r=>rw[VX,q]; rfl
      | none =>
       cases w with
       | nil=>rfl
       | cons x r =>
        rw[VX,q]
        show(((List.length (x::r):Nat):Int)==0)=decide ((2:Int)=0)
        rw[List.length_cons,beq_eq_false_iff_ne.2 (by omega)]; rfl
  ·intro h0
   unfold Ji at h0 ⊢
   rw[if_pos c1]at h0 ⊢
   generalize ye l=w at h0 ⊢
   cases q:iJ w with
   | none=>rw[q]at h0; exact absurd h0 (show ¬ (2:Int)=0 by decide)
   | some v =>
    have:(P7 w).getD 0=v:=by
     cases w with
     | nil=>injection q
     | cons x r=>rw[VX]at q; rw[q]; rfl
    rw[this]
 ·have e2:Ji vQ.length l=(2,xE):=by unfold Ji; rw[if_neg c1]
  refine⟨[],?_,λh=>by rw[e2]at h; exact absurd h (by decide)⟩
  unfold ue
  rw[e2,List.append_nil]
  refine(z6 (a:=(true,((),(xs,(b8,(vQ,(cG,(cD,cK)))))))) ?_ _).trans ?_
  ·by_cases k:2<=l.length
   ·rw[z8 (decide_eq_false (by omega)),zb (fA (by omega)),z6 (xG _)]
    show(T.ite (!zG (wd l 1)) _ _).run=_
    cases h:zG (wd l 1)with
    | false =>
     rw[za (by rfl)]
     simp only[zq,T.zi,zo,z7]
    | true =>
     rw[z8 (by rfl)]
     simp only[zq,T.zi,zo,z7]
     have:vQ.length=0:=Classical.byContradiction λg=>c1 ⟨k,h,g⟩
     rw[this]; rfl
   ·rw[za (decide_eq_true (by omega))]
    simp only[zq,T.zi,zo,z7]
  ·dsimp only
   rw[zj]
   simp only[zq,T.zi,zo,z7]
   rfl
theorem Gz:∀ {s:ze} {l:ze} {c:Int} {r:ze},yH s=some (l,c,r)->c=0\/c=1\/c=2
 | [],_,_,_,h=>by cases h
 | b::s,l,c,r,h=>by
  unfold yH at h
  split at h
  ·injection h with h; injection h with _ h; injection h with h _; exact .inl h.symm
  ·split at h
   ·split at h
    ·injection h with h; injection h with _ h; injection h with h _; exact .inr (.inr h.symm)
    ·injection h with h; injection h with _ h; injection h with h _; exact .inr (.inl h.symm)
   ·split at h
    ·rename_i q
     injection h with h; injection h with _ h; injection h with h _
     rw[<- h]
     exact Gz q
    ·cases h
theorem OV(s:ze):(kL [60,61] s).2.2.2=(qO s).2.2.2/\((qO s).2.2.2=0->(kL [60,61] s).1=(qO s).1/\(kL [60,61] s).2.1=(qO s).2.1/\PL.Z9 (λt=>zh (kL [60,61] s).2.2.1 t) 0 [[61],[60],[60,61]]=(qO s).2.2.1):=by
 unfold kL qO
 cases h:yH s with
 | none=>exact⟨rfl,λh=>absurd h (by decide)⟩
 | some p =>
  obtain⟨l,c,r⟩:=p
  dsimp only
  have hc:=Gz h
  have hk:(0:Int)<=cV [60,61] (ju c):=by rcases hc with rfl | rfl | rfl<;>decide
  by_cases e:(qy l).2.2≠0
  ·rw[if_pos e,if_pos e]
   exact⟨rfl,λh=>absurd h e⟩
  ·rw[if_neg e,if_neg e]
   refine⟨if_neg (λh=>h.2 hk),λ_=>⟨rfl,rfl,?_⟩⟩
   show PL.Z9 (λt=>zh (ju c) t) 0 [[61],[60],[60,61]]=c
   rcases hc with rfl | rfl | rfl<;>decide
theorem S0(s:ze):(kL [61] s).2.2.2=(if(qO s).2.2.2=0/\(qO s).2.2.1≠0 then 2 else(qO s).2.2.2)/\((kL [61] s).2.2.2=0->(kL [61] s).1=(qO s).1/\(kL [61] s).2.1=(qO s).2.1):=by
 cases h:yH s with
 | none =>
  have h1:kL [61] s=(zE,(zE,(([]:ze),(2:Int)))):=by unfold kL; rw[h]
  have h2:qO s=(zE,(zE,((0:Int),(2:Int)))):=by unfold qO; rw[h]
  rw[h1,h2]
  exact⟨rfl,λh=>absurd h (by decide)⟩
 | some p =>
  obtain⟨l,c,r⟩:=p
  have hc:=Gz h
  have hk:(0:Int)<=cV [61] (ju c)↔c=0:=by rcases hc with rfl | rfl | rfl<;>decide
  by_cases e:(qy l).2.2≠0
  ·have h1:kL [61] s=((qy l).1,(zE,(([]:ze),(qy l).2.2))):=by unfold kL; rw[h]; exact if_pos e
   have h2:qO s=(zE,(zE,((0:Int),(qy l).2.2))):=by unfold qO; rw[h]; exact if_pos e
   rw[h1,h2]
   exact⟨(if_neg (λh=>e h.1)).symm,λh=>absurd h e⟩
  ·have h1:kL [61] s=((qy l).1,((qy r).1,(ju c,(if(qy r).2.2=0/\¬ (0<=cV [61] (ju c))then 2 else(qy r).2.2)))):=by unfold kL; rw[h]; exact if_neg e
   have h2:qO s=((qy l).1,((qy r).1,(c,(qy r).2.2))):=by unfold qO; rw[h]; exact if_neg e
   rw[h1,h2]
   refine⟨?_,λ_=>⟨rfl,rfl⟩⟩
   simp only[ne_eq,hk]
theorem Km(l:List ze)(rest:ze)(xs:List Switch)(b8:List Param)(vQ:List xj)(cG:List Field)(cD:List qH)(cK:List Check)(hx:cK.length<=1000000)(FI:vQ.length<=1000000)(hr:rest.length<=80000) :
  ∃ Q,(vd l rest () xs b8 vQ cG cD cK).run=some ((DR vQ.length l rest).1,((),(xs,(b8,(vQ,(cG,(cD,cK++Q)))))))/\((DR vQ.length l rest).1=0->Q=(DR vQ.length l rest).2.2.2.2.2.2):=by
 by_cases c1:l.length=2/\zG (wd l 1)=true/\vQ.length≠0
 ·have hw:zF (((vQ.length:Nat):Int)-1)=(vQ.length:Int)-1:=zA (by omega) (by omega)
  obtain⟨q1,q2⟩:=OV rest
  have e0:DR vQ.length l rest=((qO rest).2.2.2,[],[],[],[],[],[(wd l 1,((vQ.length:Int)-1,((qO rest).2.2.1,((qO rest).1,((qO rest).2.1,())))))]):=by unfold DR; rw[if_pos c1]
  have hE:(vz rest [60,61]).run=some ((kL [60,61] rest).1,((kL [60,61] rest).2.1,((kL [60,61] rest).2.2.1,(kL [60,61] rest).2.2.2))):=QA rest [60,61] hr (by decide)
  refine⟨[(wd l 1,((vQ.length:Int)-1,(PL.Z9 (λt=>zh (kL [60,61] rest).2.2.1 t) 0 [[61],[60],[60,61]],((kL [60,61] rest).1,((kL [60,61] rest).2.1,())))))],?_,?_⟩
  ·unfold vd
   refine(z6 (a:=(false,((),(xs,(b8,(vQ,(cG,(cD,cK)))))))) ?_ _).trans ?_
   ·rw[z8 (by rw[c1.1]; rfl),zb (fA (by omega)),z6 (xG _)]
    show(T.ite (!zG (wd l 1)) _ _).run=_
    rw[c1.2.1,z8 (by rfl)]
    simp only[zq,T.zi,zo,z7]
    rw[beq_eq_false_iff_ne.2 (by omega)]
   ·dsimp only
    rw[zg,zb (fA (by omega)),z6 hE]
    dsimp only
    rw[show wQ=.ret [[61],[60],[60,61]]from rfl,z6 (z7 _),z6 (sM _ _ (by decide)),mK _ rfl rfl rfl (by omega),hw,fb,fb]
    simp only[List.length_append,List.length_singleton,zq,T.zi,zo,z7]
    rw[e0,q1]
    rfl
  ·intro h0
   rw[e0]at h0 ⊢
   obtain⟨g1,g2,g3⟩:=q2 h0
   rw[g1,g2,g3]
 ·have e2:DR vQ.length l rest=(2,xE):=by unfold DR; rw[if_neg c1]
  refine⟨[],?_,λh=>by rw[e2]at h; exact absurd h (by decide)⟩
  unfold vd
  rw[e2,List.append_nil]
  refine(z6 (a:=(true,((),(xs,(b8,(vQ,(cG,(cD,cK)))))))) ?_ _).trans ?_
  ·by_cases k:l.length=2
   ·rw[z8 (by rw[k]; rfl),zb (fA (by omega)),z6 (xG _)]
    show(T.ite (!zG (wd l 1)) _ _).run=_
    cases h:zG (wd l 1)with
    | false =>
     rw[za (by rfl)]
     simp only[zq,T.zi,zo,z7]
    | true =>
     rw[z8 (by rfl)]
     simp only[zq,T.zi,zo,z7]
     have:vQ.length=0:=Classical.byContradiction λg=>c1 ⟨k,h,g⟩
     rw[this]; rfl
   ·rw[za (by rw[bne_iff_ne]; omega)]
    simp only[zq,T.zi,zo,z7]
  ·dsimp only
   rw[zj]
   simp only[zq,T.zi,zo,z7]
theorem HW(l:List ze)(rest:ze)(xs:List Switch)(b8:List Param)(vQ:List xj)(cG:List Field)(cD:List qH)(cK:List Check)(hx:cD.length<=1000000)(hr:rest.length<=80000) :
  ∃ Q,(wo l rest () xs b8 vQ cG cD cK).run=some ((K5 l rest).1,((),(xs,(b8,(vQ,(cG,(cD++Q,cK)))))))/\((K5 l rest).1=0->Q=(K5 l rest).2.2.2.2.2.1):=by
 have hI:(qQ [[114,101,113,117,105,114,101,100],[115,116,114,111,110,103],[109,101,100,105,117,109],[119,101,97,107]] (nth l (1:Int) (zk .str))).run=some (GZ (wd l 1)):=sM _ _ (by decide)
 have hC:(we [[114,101,113,117,105,114,101,100],[115,116,114,111,110,103],[109,101,100,105,117,109],[119,101,97,107]] (nth l (1:Int) (zk .str))).run=some (decide (0<=GZ (wd l 1))):=by
  unfold we
  rw[z6 hI,z7]
 have hS:xJ=.ret [[114,101,113,117,105,114,101,100],[115,116,114,111,110,103],[109,101,100,105,117,109],[119,101,97,107]]:=rfl
 by_cases c1:3<=l.length/\0<=GZ (wd l 1)/\zG (wd l 2)=true
 ·have hg:(jR l (3:Int)).run=some ((UF l 3).1,(UF l 3).2):=W5 l 3 (by decide)
  obtain⟨q1,q2⟩:=S0 rest
  have hE:(vz rest [61]).run=some ((kL [61] rest).1,((kL [61] rest).2.1,((kL [61] rest).2.2.1,(kL [61] rest).2.2.2))):=QA rest [61] hr (by decide)
  by_cases c2:(UF l 3).2=true
  ·refine⟨[(wd l 2,(GZ (wd l 1),((UF l 3).1,((kL [61] rest).1,((kL [61] rest).2.1,())))))],?_,?_⟩
   ·unfold wo
    refine(z6 (a:=(false,((),(xs,(b8,(vQ,(cG,(cD,cK)))))))) ?_ _).trans ?_
    ·rw[z8 (decide_eq_false (by omega)),hS,z6 (z7 _),zb (fA (by omega)),z6 hC,z8 (by rw[decide_eq_true c1.2.1]; rfl),zb (Dj (by omega)),z6 (xG _)]
     simp only[zq,T.zi,zo,z7]
     show some (!zG (wd l 2),_)=_
     rw[c1.2.2]; rfl
    ·dsimp only
     rw[zg,z6 hg]
     dsimp only
     rw[c2,z8 (by rfl),zb (Dj (by omega)),hS,z6 (z7 _),zb (fA (by omega)),z6 hI,z6 hE]
     dsimp only
     rw[mK _ rfl rfl rfl (by omega),fb,fb]
     simp only[List.length_append,List.length_singleton,zq,T.zi,zo,z7]
     have:(kL [61] rest).2.2.2=(K5 l rest).1:=by
      unfold K5
      rw[if_pos ⟨c1.1,c1.2.1,c1.2.2,c2⟩,q1]
      split<;>rfl
     rw[this]
     rfl
   ·intro h0
    unfold K5 at h0 ⊢
    rw[if_pos ⟨c1.1,c1.2.1,c1.2.2,c2⟩]at h0 ⊢
    by_cases k:(qO rest).2.2.2=0/\(qO rest).2.2.1≠0
    ·rw[if_pos k]at h0; exact absurd h0 (by decide)
    ·rw[if_neg k]at h0 ⊢ q1
     obtain⟨g1,g2⟩:=q2 (q1.trans h0)
     rw[g1,g2]
  ·have e2:K5 l rest=(2,xE):=by unfold K5; rw[if_neg (λh=>c2 h.2.2.2)]
   refine⟨[],?_,λh=>by rw[e2]at h; exact absurd h (by decide)⟩
   unfold wo
   rw[e2,List.append_nil]
   refine(z6 (a:=(false,((),(xs,(b8,(vQ,(cG,(cD,cK)))))))) ?_ _).trans ?_
   ·rw[z8 (decide_eq_false (by omega)),hS,z6 (z7 _),zb (fA (by omega)),z6 hC,z8 (by rw[decide_eq_true c1.2.1]; rfl),zb (Dj (by omega)),z6 (xG _)]
    simp only[zq,T.zi,zo,z7]
    show some (!zG (wd l 2),_)=_
    rw[c1.2.2]; rfl
   ·dsimp only
    rw[zg,z6 hg]
    dsimp only
    rw[za (by cases h:(UF l 3).2 with | false=>rfl | true=>exact absurd h c2)]
    simp only[zq,T.zi,zo,z7]
 ·have e2:K5 l rest=(2,xE):=by unfold K5; rw[if_neg (λh=>c1 ⟨h.1,h.2.1,h.2.2.1⟩)]
  refine⟨[],?_,λh=>by rw[e2]at h; exact absurd h (by decide)⟩
  unfold wo
  rw[e2,List.append_nil]
  refine(z6 (a:=(true,((),(xs,(b8,(vQ,(cG,(cD,cK)))))))) ?_ _).trans ?_
  ·by_cases k:3<=l.length
   ·rw[z8 (decide_eq_false (by omega)),hS,z6 (z7 _),zb (fA (by omega)),z6 hC]
    by_cases k2:0<=GZ (wd l 1)
    ·rw[z8 (by rw[decide_eq_true k2]; rfl),zb (Dj (by omega)),z6 (xG _)]
     simp only[zq,T.zi,zo,z7]
     show some (!zG (wd l 2),_)=_
     cases h:zG (wd l 2)with
     | false=>rfl
     | true=>exact absurd ⟨k,k2,h⟩ c1
    ·rw[za (by rw[decide_eq_false k2]; rfl)]
     simp only[zq,T.zi,zo,z7]
   ·rw[za (decide_eq_true (by omega))]
    simp only[zq,T.zi,zo,z7]
  ·dsimp only
   rw[zj]
   simp only[zq,T.zi,zo,z7]
def ZO(w:ze):Bool:=match w with | b::_=>decide (b=35) | []=>false
def ll(np:Nat)(l:List ze)(rest:ze)(colon:Bool):Int×gA:=match l with
 | []=>if colon=true then(2,xE)else(0,xE)
 | w::_=>if ZO w=true then(0,xE)else
   if colon=true then(if zh w [99,104,101,99,107]=true then DR np l rest else if zh w [114,117,108,101]=true then K5 l rest else(2,xE))
   else if zh w [115,119,105,116,99,104]=true then Ya l else if zh w [112,97,114,97,109]=true then WN l
   else if zh w [112,97,103,101]=true then Vc l else if zh w [102,105,101,108,100]=true then Ji np l else(2,xE)
theorem wy(np:Nat)(w:ze)(r:List ze)(rest:ze)(colon:Bool):ll np (w::r) rest colon=if ZO w=true then(0,xE)else
   if colon=true then(if zh w [99,104,101,99,107]=true then DR np (w::r) rest else if zh w [114,117,108,101]=true then K5 (w::r) rest else(2,xE))
   else if zh w [115,119,105,116,99,104]=true then Ya (w::r)else if zh w [112,97,114,97,109]=true then WN (w::r)
   else if zh w [112,97,103,101]=true then Vc (w::r)else if zh w [102,105,101,108,100]=true then Ji np (w::r)else(2,xE):=rfl
def wB(np:Nat)(line:ze):Int×gA:=ll np (xC 32 [] (wT line [58]).1) (wT line [58]).2.1 (wT line [58]).2.2
theorem Zm(c:UInt8):∀ (s cur:ze),∀ w∈xC c cur s,w≠[]/\w.length<=cur.length+s.length
 | [],cur,w,h=>by
  unfold xC at h
  split at h
  ·cases h
  ·rename_i hc
   rw[List.mem_singleton.1 h]
   exact⟨hc,by omega⟩
 | b::r,cur,w,h=>by
  unfold xC at h
  split at h
  ·split at h
   ·have:=Zm c r [] w h
    exact⟨this.1,by have:=this.2; simp only[List.length_cons,List.length_nil]at *; omega⟩
   ·rename_i hc
    rcases List.mem_cons.1 h with rfl | h
    ·exact⟨hc,by omega⟩
    ·have:=Zm c r [] w h
     exact⟨this.1,by have:=this.2; simp only[List.length_cons,List.length_nil]at *; omega⟩
  ·have:=Zm c r (cur++[b]) w h
   exact⟨this.1,by have:=this.2; simp only[List.length_append,List.length_cons,List.length_nil]at *; omega⟩
structure SmS(xs:List Switch)(b8:List Param)(vQ:List xj)(cG:List Field)(cD:List qH)(cK:List Check):Prop where
 l0:xs.length<=1000000
 l1:b8.length<=1000000
 l2:vQ.length<=1000000
 l3:cG.length<=1000000
 l4:cD.length<=1000000
 l5:cK.length<=1000000
def fG(xs:List Switch)(b8:List Param)(vQ:List xj)(cG:List Field)(cD:List qH)(cK:List Check)(D:gA):List Switch×List Param×List xj×List Field×List qH×List Check :=
 (xs++D.1,(b8++D.2.1,(vQ++D.2.2.1,(cG++D.2.2.2.1,(cD++D.2.2.2.2.1,cK++D.2.2.2.2.2)))))
theorem ZU(xs:List Switch)(b8:List Param)(vQ:List xj)(cG:List Field)(cD:List qH)(cK:List Check):fG xs b8 vQ cG cD cK xE=(xs,(b8,(vQ,(cG,(cD,cK))))):=by
 unfold fG xE
 simp only[List.append_nil]
theorem z09(line:ze)(hl:line.length<=80000)(xs:List Switch)(b8:List Param)(vQ:List xj)(cG:List Field)(cD:List qH)(cK:List Check)(h:SmS xs b8 vQ cG cD cK) :
  ∃ D,(dm line () xs b8 vQ cG cD cK).run=some ((wB vQ.length line).1,((),fG xs b8 vQ cG cD cK D))/\((wB vQ.length line).1=0->D=(wB vQ.length line).2):=by
 obtain⟨h0,h1,h2,h3,h4,h5⟩:=h
 have hC:(strings_Cut line [58]).run=some ((wT line [58]).1,((wT line [58]).2.1,(wT line [58]).2.2)):=by
  unfold strings_Cut
  rw[zb (by omega),z7]
 have hlen:=N3 line 58
 unfold dm wB
 rw[z6 hC]
 dsimp only
 rw[z6 (O7 _ (by omega))]
 have hm:=Zm 32 (wT line [58]).1 []
 generalize xC 32 [] (wT line [58]).1=l at hm ⊢
 obtain⟨_,hr⟩:=hlen
 generalize (wT line [58]).2.1=rest at hr ⊢
 generalize (wT line [58]).2.2=colon
 cases l with
 | nil =>
  refine⟨xE,?_,?_⟩
  ·rw[zb ⟨(λ_ _ h=>by simp at h),(λh=>by simp at h)⟩,ZU]
   cases colon with
   | false =>
    rw[za (by rfl)]
    simp only[zq,T.zi,zo,z7]
    rfl
   | true =>
    rw[z8 (by rfl),za (by rfl),za (by rfl)]
    simp only[zq,T.zi,zo,z7]
    rfl
  ·intro h
   cases colon with
   | false=>rfl
   | true=>exact absurd h (show ¬ (2:Int)=0 by decide)
 | cons w r =>
  obtain⟨m1,m2⟩:=hm w List.mem_cons_self
  cases w with
  | nil=>exact absurd rfl m1
  | cons b q =>
  have hL:(((((b::q)::r).length:Nat):Int)==(0:Int))=false:=by rw[List.length_cons,beq_eq_false_iff_ne]; omega
  have hP:decide ((0:Int)<((((b::q)::r).length:Nat):Int))=true:=by rw[List.length_cons]; exact decide_eq_true (by omega)
  have Eo:qw (0:Int) ((b::q)::r).length:=z4w (by simp)
  have h0w:qw (0:Int) (nth ((b::q)::r) (0:Int) (zk .str)).length:=z4w (by show 0<(b::q).length; simp)
  have hb:(qo (nth ((b::q)::r) (0:Int) (zk .str)) (0:Int)==(35:Int))=decide (b=35):=TF b 35
  have hw:nth ((b::q)::r) (0:Int) (zk .str)=b::q:=rfl
  rw[zb ⟨λ_ _ _=>⟨Eo,h0w⟩,λ_ _=>⟨Eo,h0w⟩⟩,hL,hb,hP]
  simp only[cond_false,Bool.true_and]
  by_cases c:b=35
  ·have e:ll vQ.length ((b::q)::r) rest colon=(0,xE):=if_pos (decide_eq_true c)
   rw[e]
   refine⟨xE,?_,λ_=>rfl⟩
   rw[za (decide_eq_true c),ZU]
   simp only[zq,T.zi,zo,z7]
  ·rw[z8 (decide_eq_false c),zg,zb (λ_=>Eo),hw]
   have hn:¬ (ZO (b::q)=true):=λh=>c (of_decide_eq_true h)
   cases colon with
   | true =>
    by_cases k1:zh (b::q) [99,104,101,99,107]=true
    ·have e:ll vQ.length ((b::q)::r) rest true=DR vQ.length ((b::q)::r) rest:=by
      rw[wy,if_neg hn,if_pos rfl,if_pos k1]
     obtain⟨Q,g1,g2⟩:=Km ((b::q)::r) rest xs b8 vQ cG cD cK h5 h2 (by omega)
     rw[e]
     refine⟨([],[],[],[],[],Q),?_,λh => ?_⟩
     ·rw[za (by rw[k1]; rfl)]
      simp only[zq,T.zi,zo]
      rw[z6 g1]
      dsimp only
      simp only[zq,T.zi,zo,z7]
      unfold fG
      simp only[List.append_nil]
     ·rw[g2 h]
      unfold DR at h ⊢
      split at h
      ·rename_i d; rw[if_pos d]
      ·exact absurd h (by decide)
    ·by_cases k2:zh (b::q) [114,117,108,101]=true
     ·have e:ll vQ.length ((b::q)::r) rest true=K5 ((b::q)::r) rest:=by
       rw[wy,if_neg hn,if_pos rfl,if_neg k1,if_pos k2]
      obtain⟨Q,g1,g2⟩:=HW ((b::q)::r) rest xs b8 vQ cG cD cK h4 (by omega)
      rw[e]
      refine⟨([],[],[],[],Q,[]),?_,λh => ?_⟩
      ·rw[z8 (by rw[Bool.eq_false_iff.2 k1]; rfl),zb (λ_=>Eo),za (by rw[k2]; rfl)]
       simp only[zq,T.zi,zo]
       rw[z6 g1]
       dsimp only
       simp only[zq,T.zi,zo,z7]
       unfold fG
       simp only[List.append_nil]
      ·rw[g2 h]
       unfold K5 at h ⊢
       split at h
       ·rename_i d
        rw[if_pos d]
        split at h
        ·exact absurd h (by decide)
        ·rename_i d2; rw[if_neg d2]
       ·exact absurd h (by decide)
     ·have e:ll vQ.length ((b::q)::r) rest true=(2,xE):=by
       rw[wy,if_neg hn,if_pos rfl,if_neg k1,if_neg k2]
      rw[e]
      refine⟨xE,?_,λ_=>rfl⟩
      rw[z8 (by rw[Bool.eq_false_iff.2 k1]; rfl),zb (λ_=>Eo),z8 (by rw[Bool.eq_false_iff.2 k2]; rfl),zj,za (by rfl),ZU]
      simp only[zq,T.zi,zo,z7]
   | false =>
    have fin:∀ (v:Int),v=0\/v=2->∀ (ys:List Switch) (ys1:List Param) (ys2:List xj) (ys3:List Field) (ys4:List qH) (ys5:List Check),(T.ite (!decide (v=0)) (.ret ((2:Int),((),(ys,(ys1,(ys2,(ys3,(ys4,ys5)))))))) (.ret ((0:Int),((),(ys,(ys1,(ys2,(ys3,(ys4,ys5)))))))):T (Int×Unit×List Switch×List Param×List xj×List Field×List qH×List Check)).run=some (v,((),(ys,(ys1,(ys2,(ys3,(ys4,ys5))))))):=by
     intro v hv ys ys1 ys2 ys3 ys4 ys5
     rcases hv with rfl | rfl<;>rfl
    rw[z8 (by rfl),zb (λh=>by cases h),z8 (by rfl),zg,zb Eo]
    by_cases k1:zh (b::q) [115,119,105,116,99,104]=true
    ·have e:ll vQ.length ((b::q)::r) rest false=Ya ((b::q)::r):=by
      rw[wy,if_neg hn,if_neg (by decide),if_pos k1]
     have g1:=HK ((b::q)::r) xs b8 vQ cG cD cK h0
     rw[e]
     refine⟨((Ya ((b::q)::r)).2.1,[],[],[],[],[]),?_,λh => ?_⟩
     ·rw[za k1]
      simp only[zq,T.zi,zo]
      rw[z6 g1]
      dsimp only
      unfold fG
      simp only[List.append_nil]
      have:(Ya ((b::q)::r)).1=0\/(Ya ((b::q)::r)).1=2:=by unfold Ya; split; exact .inl rfl; exact .inr rfl
      rcases this with h | h<;>rw[h]
      ·rw[z8 (by rfl)]; simp only[zq,T.zi,zo,z7]
      ·rw[za (by rfl)]; simp only[zq,T.zi,zo,z7]
     ·unfold Ya at h ⊢
      split at h
      ·rename_i d; rw[if_pos d]
      ·exact absurd h (by decide)
    ·by_cases k2:zh (b::q) [112,97,114,97,109]=true
     ·have e:ll vQ.length ((b::q)::r) rest false=WN ((b::q)::r):=by
       rw[wy,if_neg hn,if_neg (by decide),if_neg k1,if_pos k2]
      obtain⟨Q,g1,g2⟩:=Bl ((b::q)::r) xs b8 vQ cG cD cK h1 (λs hs=>by have:=(hm s hs).2; simp only[List.length_nil]at this; omega)
      rw[e]
      refine⟨([],Q,[],[],[],[]),?_,λh => ?_⟩
      ·rw[z8 (Bool.eq_false_iff.2 k1),zb Eo,za k2]
       simp only[zq,T.zi,zo]
       rw[z6 g1]
       dsimp only
       unfold fG
       simp only[List.append_nil]
       have:(WN ((b::q)::r)).1=0\/(WN ((b::q)::r)).1=2:=by unfold WN; split; split; exact .inl rfl; exact .inr rfl; exact .inr rfl
       rcases this with h | h<;>rw[h]
       ·rw[z8 (by rfl)]; simp only[zq,T.zi,zo,z7]
       ·rw[za (by rfl)]; simp only[zq,T.zi,zo,z7]
      ·rw[g2 h]
       unfold WN at h ⊢
       split at h
       ·rename_i d
        rw[if_pos d]
        cases hd:tp (wd ((b::q)::r) 2)with
        | none=>rw[hd]at h; exact absurd h (show ¬ (2:Int)=0 by decide)
        | some v=>rfl
       ·exact absurd h (by decide)
     ·by_cases k3:zh (b::q) [112,97,103,101]=true
      ·have e:ll vQ.length ((b::q)::r) rest false=Vc ((b::q)::r):=by
        rw[wy,if_neg hn,if_neg (by decide),if_neg k1,if_neg k2,if_pos k3]
       obtain⟨Q,g1,g2⟩:=GN ((b::q)::r) xs b8 vQ cG cD cK h2
       rw[e]
       refine⟨([],[],Q,[],[],[]),?_,λh => ?_⟩
       ·rw[z8 (Bool.eq_false_iff.2 k1),zb Eo,z8 (Bool.eq_false_iff.2 k2),zb Eo,za k3]
        simp only[zq,T.zi,zo]
        rw[z6 g1]
        dsimp only
        unfold fG
        simp only[List.append_nil]
        have:(Vc ((b::q)::r)).1=0\/(Vc ((b::q)::r)).1=2:=by unfold Vc; split; exact .inl rfl; exact .inr rfl
        rcases this with h | h<;>rw[h]
        ·rw[z8 (by rfl)]; simp only[zq,T.zi,zo,z7]
        ·rw[za (by rfl)]; simp only[zq,T.zi,zo,z7]
       ·rw[g2 h]
        unfold Vc at h ⊢
        split at h
        ·rename_i d; rw[if_pos d]
        ·exact absurd h (by decide)
      ·by_cases k4:zh (b::q) [102,105,101,108,100]=true
       ·have e:ll vQ.length ((b::q)::r) rest false=Ji vQ.length ((b::q)::r):=by
         rw[wy,if_neg hn,if_neg (by decide),if_neg k1,if_neg k2,if_neg k3,if_pos k4]
        obtain⟨Q,g1,g2⟩:=Kt ((b::q)::r) xs b8 vQ cG cD cK h3 h2
        rw[e]
        refine⟨([],[],[],Q,[],[]),?_,λh => ?_⟩
        ·rw[z8 (Bool.eq_false_iff.2 k1),zb Eo,z8 (Bool.eq_false_iff.2 k2),zb Eo,z8 (Bool.eq_false_iff.2 k3),zb Eo,za k4]
         simp only[zq,T.zi,zo]
         rw[z6 g1]
         dsimp only
         unfold fG
         simp only[List.append_nil]
         have:(Ji vQ.length ((b::q)::r)).1=0\/(Ji vQ.length ((b::q)::r)).1=2:=by unfold Ji; split; split; exact .inl rfl; exact .inr rfl; exact .inr rfl
         rcases this with h | h<;>rw[h]
         ·rw[z8 (by rfl)]; simp only[zq,T.zi,zo,z7]
         ·rw[za (by rfl)]; simp only[zq,T.zi,zo,z7]
        ·rw[g2 h]
         unfold Ji at h ⊢
         split at h
         ·rename_i d
          rw[if_pos d]
          cases hd:iJ (ye ((b::q)::r))with
          | none=>rw[hd]at h; exact absurd h (show ¬ (2:Int)=0 by decide)
          | some v=>rfl
         ·exact absurd h (by decide)
       ·have e:ll vQ.length ((b::q)::r) rest false=(2,xE):=by
         rw[wy,if_neg hn,if_neg (by decide),if_neg k1,if_neg k2,if_neg k3,if_neg k4]
        rw[e]
        refine⟨xE,?_,λ_=>rfl⟩
        rw[z8 (Bool.eq_false_iff.2 k1),zb Eo,z8 (Bool.eq_false_iff.2 k2),zb Eo,z8 (Bool.eq_false_iff.2 k3),zb Eo,z8 (Bool.eq_false_iff.2 k4),za (by rfl),ZU]
        simp only[zq,T.zi,zo,z7]
abbrev bm(S D:gA):gA:=fG S.1 S.2.1 S.2.2.1 S.2.2.2.1 S.2.2.2.2.1 S.2.2.2.2.2 D
def ur:List ze->gA->Nat->(Nat×Int)⊕gA
 | [],S,_=>.inr S
 | line::r,S,k=>if(wB S.2.2.1.length line).1=0 then ur r (bm S (wB S.2.2.1.length line).2) (k+1)else .inl (k+1,(wB S.2.2.1.length line).1)
def Ie(S:gA):Form:=(S.1,(S.2.1,(S.2.2.1,(S.2.2.2.1,(S.2.2.2.2.1,(S.2.2.2.2.2,()))))))
def noF:Form:=(([]:List Switch),(([]:List Param),(([]:List xj),(([]:List Field),(([]:List qH),(([]:List Check),()))))))
def GX(s:ze):Form×Int×Int:=if 16384<s.length then(noF,(0,3))else match ur (jv 10 s) xE 0 with
 | .inl (k,e)=>(noF,((k:Int),e))
 | .inr S=>if cY (Ie S)=true then(Ie S,(0,0))else(noF,(0,2))
structure GS(S:gA):Prop where
 s:∀ x∈S.1,x.1.length<=600
 p:∀ x∈S.2.1,x.1.length<=600/\wh 100 x.2.1
 g:∀ x∈S.2.2.1,x.1.length<=600/\x.2.1.length<=600
 d:∀ x∈S.2.2.2.1,x.1.length<=600
 r:∀ x∈S.2.2.2.2.1,x.1.length<=600/\x.2.2.1.length<=600/\w6 x.2.2.2.1/\w6 x.2.2.2.2.1
 c:∀ x∈S.2.2.2.2.2,x.1.length<=600/\w6 x.2.2.2.1/\w6 x.2.2.2.2.1
def LF(S:gA):Nat:=S.1.length+S.2.1.length+S.2.2.1.length+S.2.2.2.1.length+S.2.2.2.2.1.length+S.2.2.2.2.2.length
theorem z5W:GS xE:=⟨(λ_ h=>by cases h),(λ_ h=>by cases h),(λ_ h=>by cases h),(λ_ h=>by cases h),(λ_ h=>by cases h),(λ_ h=>by cases h)⟩
theorem z6j{S D:gA}(h:GS S)(k:GS D):GS (bm S D) :=
 ⟨λx hx=>(List.mem_append.1 hx).elim (h.s x) (k.s x),λx hx=>(List.mem_append.1 hx).elim (h.p x) (k.p x),λx hx=>(List.mem_append.1 hx).elim (h.g x) (k.g x),
  λx hx=>(List.mem_append.1 hx).elim (h.d x) (k.d x),λx hx=>(List.mem_append.1 hx).elim (h.r x) (k.r x),λx hx=>(List.mem_append.1 hx).elim (h.c x) (k.c x)⟩
theorem Ij(S D:gA):LF (bm S D)=LF S+LF D:=by
 unfold LF bm fG
 simp only[List.length_append]
 omega
theorem Ub{s:ze}(h:zG s=true):s.length<=600:=by have:=(nt h).1; omega
theorem IV(w:List ze)(n:Nat):(UF w n).1.length<=600:=by
 unfold UF
 split
 ·exact Nat.zero_le _
 ·split
  ·rename_i h; exact Ub h.2.2
  ·exact Nat.zero_le _
theorem z3q{s:ze}{r:Rat}(h:tp s=some r):wh 100 r:=by
 have:TM s=some r:=by
  unfold TM
  unfold tp at h
  split at h
  ·cases h
  ·rename_i c
   rw[if_neg c]
   cases q:pn s with
   | none=>rw[q]at h; cases h
   | some p=>rw[q]at h; exact h
 have h2:=z4l this
 exact⟨h2.1,h2.2.1,by have:=h2.2.2.1; omega,by have:=h2.2.2.2; omega⟩
theorem D7(s:ze):w6 (qO s).1/\w6 (qO s).2.1:=by
 have hz:w6 zE:=rB (by decide) WW.1
 unfold qO
 split
 ·exact⟨hz,hz⟩
 ·split
  ·exact⟨hz,hz⟩
  ·exact⟨Vu _,Vu _⟩
theorem rY{α:Type}{x y:α}{p:α->Prop}(h:p x)(hy:y∈[x]):p y:=by rw[List.mem_singleton.1 hy]; exact h
theorem G2(np:Nat)(line:ze):GS (wB np line).2/\LF (wB np line).2<=1:=by
 have hz:GS xE/\LF xE<=1:=⟨z5W,by decide⟩
 unfold wB
 generalize xC 32 [] (wT line [58]).1=l
 generalize (wT line [58]).2.1=rest
 generalize (wT line [58]).2.2=colon
 cases l with
 | nil=>cases colon; exact hz; exact hz
 | cons w r =>
  rw[wy]
  split
  ·exact hz
  ·split
   ·split
    ·unfold DR
     split
     ·rename_i h
      exact⟨⟨(λ_ h=>by cases h),(λ_ h=>by cases h),(λ_ h=>by cases h),(λ_ h=>by cases h),(λ_ h=>by cases h),λy hy=>rY (p:=λx:Check=>x.1.length<=600/\w6 x.2.2.2.1/\w6 x.2.2.2.2.1) ⟨Ub h.2.1,D7 rest⟩ hy⟩,Nat.le_refl 1⟩
     ·exact hz
    ·split
     ·unfold K5
      split
      ·rename_i h
       split
       ·exact hz
       ·exact⟨⟨(λ_ h=>by cases h),(λ_ h=>by cases h),(λ_ h=>by cases h),(λ_ h=>by cases h),λy hy=>rY (p:=λx:qH=>x.1.length<=600/\x.2.2.1.length<=600/\w6 x.2.2.2.1/\w6 x.2.2.2.2.1) ⟨Ub h.2.2.1,IV _ _,D7 rest⟩ hy,(λ_ h=>by cases h)⟩,Nat.le_refl 1⟩
      ·exact hz
     ·exact hz
   ·split
    ·unfold Ya
     split
     ·rename_i h
      exact⟨⟨λy hy=>rY (p:=λx:Switch=>x.1.length<=600) (Ub h.2.1) hy,(λ_ h=>by cases h),(λ_ h=>by cases h),(λ_ h=>by cases h),(λ_ h=>by cases h),(λ_ h=>by cases h)⟩,Nat.le_refl 1⟩
     ·exact hz
    ·split
     ·unfold WN
      split
      ·rename_i h
       cases hd:tp (wd (w::r) 2)with
       | none=>exact hz
       | some v=>exact⟨⟨(λ_ h=>by cases h),λy hy=>rY (p:=λx:Param=>x.1.length<=600/\wh 100 x.2.1) ⟨Ub h.2,z3q hd⟩ hy,(λ_ h=>by cases h),(λ_ h=>by cases h),(λ_ h=>by cases h),(λ_ h=>by cases h)⟩,Nat.le_refl 1⟩
      ·exact hz
     ·split
      ·unfold Vc
       split
       ·rename_i h
        exact⟨⟨(λ_ h=>by cases h),(λ_ h=>by cases h),λy hy=>rY (p:=λx:xj=>x.1.length<=600/\x.2.1.length<=600) ⟨Ub h.2.1,IV _ _⟩ hy,(λ_ h=>by cases h),(λ_ h=>by cases h),(λ_ h=>by cases h)⟩,Nat.le_refl 1⟩
       ·exact hz
      ·split
       ·unfold Ji
        split
        ·rename_i h
         cases hd:iJ (ye (w::r))with
         | none=>exact hz
         | some v=>exact⟨⟨(λ_ h=>by cases h),(λ_ h=>by cases h),(λ_ h=>by cases h),λy hy=>rY (p:=λx:Field=>x.1.length<=600) (Ub h.2.1) hy,(λ_ h=>by cases h),(λ_ h=>by cases h)⟩,Nat.le_refl 1⟩
        ·exact hz
       ·exact hz
theorem UE:∀ (ls:List ze) (S:gA) (k:Nat) (S':gA),ur ls S k=.inr S'->GS S->GS S'/\LF S'<=LF S+ls.length
 | [],S,k,S',h,hg=>by
  injection h with h
  subst h
  exact⟨hg,Nat.le_refl _⟩
 | line::r,S,k,S',h,hg=>by
  unfold ur at h
  split at h
  ·obtain⟨a1,a2⟩:=G2 S.2.2.1.length line
   have:=UE r _ _ S' h (z6j hg a1)
   rw[Ij]at this
   exact⟨this.1,by have:=this.2; rw[List.length_cons]; omega⟩
  ·cases h
theorem B0(c:UInt8):∀ s:ze,(jv c s).length<=s.length+1
 | []=>Nat.le_refl _
 | b::r=>by
  have:=B0 c r
  unfold jv
  split
  ·rw[List.length_cons,List.length_cons]; omega
  ·cases h:jv c r with
   | nil=>simp[Ok]
   | cons x y=>rw[h]at this; simp only[Ok,List.length_cons]at *; omega
theorem IA(c:UInt8):∀ (s:ze),∀ l∈jv c s,l.length<=s.length
 | [],l,h=>by rw[show jv c []=[[]]from rfl]at h; rw[List.mem_singleton.1 h]; exact Nat.le_refl _
 | b::r,l,h=>by
  have ih:=IA c r
  unfold jv at h
  split at h
  ·rcases List.mem_cons.1 h with rfl | h
   ·exact Nat.zero_le _
   ·have:=ih l h; rw[List.length_cons]; omega
  ·cases q:jv c r with
   | nil=>rw[q]at h; rw[List.mem_singleton.1 (show l∈[[b]]from h)]; simp
   | cons x y =>
    rw[q]at h ih
    rcases List.mem_cons.1 (show l∈(b::x)::y from h)with rfl | h
    ·have:=ih x List.mem_cons_self; rw[List.length_cons,List.length_cons]; omega
    ·have:=ih l (List.mem_cons_of_mem _ h); rw[List.length_cons]; omega
theorem z7V{S:gA}(h:LF S<=1000000):SmS S.1 S.2.1 S.2.2.1 S.2.2.2.1 S.2.2.2.2.1 S.2.2.2.2.2:=by
 unfold LF at h
 exact⟨by omega,by omega,by omega,by omega,by omega,by omega⟩
theorem z3s{α:Type}(l:List α):List.drop (0:Nat) (List.take ((0:Nat)+l.length) l)=l:=by rw[Nat.zero_add,List.take_length,List.drop_zero]
def stL(S:gA):List Check×List Check×List qH×List qH×List Switch×List Switch×List Param×List Param×List xj×List xj×List Field×List Field:=([],(S.2.2.2.2.2,([],(S.2.2.2.2.1,([],(S.1,([],(S.2.1,([],(S.2.2.1,([],S.2.2.2.1)))))))))))
theorem nQ(s:ze)(hF:∀ S,ur (jv 10 s) xE 0=.inr S->FS (Ie S)):(jA s).run=some (GX s):=by
 unfold jA GX
 by_cases hs:16384<s.length
 ·rw[if_pos hs,za (decide_eq_true (by omega)),z7]
  rfl
 ·rw[if_neg hs,z8 (decide_eq_false (by omega))]
  have pR:(strings_Split s [10]).run=some (jv 10 s):=by
   unfold strings_Split
   rw[zb ⟨by omega,rfl⟩,z7]
   rfl
  rw[z6 pR]
  have hln:=B0 10 s
  have hmm:=IA 10 s
  generalize jv 10 s=ls at hln hmm hF ⊢
  have key:∀ (m k:Nat) (S:gA),k+m=ls.length->LF S<=k->∃ R,(dS ls (ls.length:Int) ((k:Int),((),((),stL S)))).run=some R /\
    (match ur (ls.drop k) S k with
     | .inl (n,e)=>∃ Z,R=.inr ((n:Int),(e,(noF,Z)))
     | .inr S'=>R=.inl ((),((),stL S'))):=by
   intro m
   induction m with
   | zero =>
    intro k S hk ht
    have:k=ls.length:=by omega
    subst this
    rw[List.drop_length]
    refine⟨.inl ((),((),stL S)),qz ?_,rfl⟩
    unfold jM stL
    dsimp only
    rw[z8 (kl _)]
    simp only[zq,T.zi,zo,z7]
   | succ m ih =>
    intro k S hk ht
    have h1:k<ls.length:=by omega
    have hd:=List.drop_eq_getElem_cons h1
    obtain⟨D,g1,g2⟩:=z09 ls[k] (by have:=hmm _ (List.getElem_mem h1); omega) S.1 S.2.1 S.2.2.1 S.2.2.2.1 S.2.2.2.2.1 S.2.2.2.2.2 (z7V (by omega))
    rw[hd]
    unfold ur
    by_cases c:(wB S.2.2.1.length ls[k]).1=0
    ·rw[if_pos c]
     have hD:=g2 c
     subst hD
     obtain⟨a1,a2⟩:=G2 S.2.2.1.length ls[k]
     obtain⟨R,r1,r2⟩:=ih (k+1) (bm S (wB S.2.2.1.length ls[k]).2) (by omega) (by rw[Ij]; omega)
     refine⟨R,?_,r2⟩
     refine(vu (s':=(((k+1:Nat):Int),((),((),stL (bm S (wB S.2.2.1.length ls[k]).2))))) ?_).trans r1
     unfold jM stL
     dsimp only
     rw[za (uN h1),zb (qf h1),kO h1]
     simp only[zq,T.zi,zo]
     rw[z6 g1,c]
     unfold fG
     dsimp only
     rw[z8 (by rfl)]
     simp only[zq,T.zi,zo,z7]
     rw[iU k _ h1 (by omega)]
     rfl
    ·rw[if_neg c]
     refine⟨.inr (((k+1:Nat):Int),((wB S.2.2.1.length ls[k]).1,(noF,((),stL (bm S D))))),qz ?_,_,rfl⟩
     ·unfold jM stL
      dsimp only
      rw[za (uN h1),zb (qf h1),kO h1]
      simp only[zq,T.zi,zo]
      rw[z6 g1]
      unfold fG
      dsimp only
      rw[za (by simpa using c)]
      simp only[zq,T.zi,zo,z7]
      rw[iU k _ h1 (by omega)]
      rfl
  obtain⟨R,r1,r2⟩:=key ls.length 0 xE (by omega) (Nat.le_refl _)
  rw[List.drop_zero]at r2
  have r1:(dS ls (ls.length:Int) ((0:Int),((),((),(([]:List Check),(([]:List Check),(([]:List qH),(([]:List qH),(([]:List Switch),(([]:List Switch),(([]:List Param),(([]:List Param),(([]:List xj),(([]:List xj),(([]:List Field),([]:List Field)))))))))))))))).run=some R:=r1
  simp only[zq,T.zi,zo]
  rw[z6 r1]
  cases q:ur ls xE 0 with
  | inl p =>
   obtain⟨n,e⟩:=p
   rw[q]at r2
   obtain⟨Z,rfl⟩:=r2
   rfl
  | inr S =>
   rw[q]at r2
   dsimp only at r2
   rw[r2,Sum.elim_inl]
   unfold stL
   dsimp only
   simp only[z3s,zq,T.zi,zo]
   have hI:(lh (S.1,(S.2.1,(S.2.2.1,(S.2.2.2.1,(S.2.2.2.2.1,(S.2.2.2.2.2,()))))))).run=some (cY (Ie S)):=ZT (Ie S) (hF S q)
   rw[z6 hI]
   cases cY (Ie S)with
   | false=>rw[za (by rfl),z7]; rfl
   | true =>
    rw[z8 (by rfl)]
    simp only[zq,T.zi,zo,z7]
    rfl
theorem Zp{p:UInt8->Bool}{s:ze}(h:s.all p=true)(c:UInt8)(hc:p c=false):c ∉ s:=λhm=>by
 have:=List.all_eq_true.1 h c hm
 rw[hc]at this
 cases this
theorem rM{s:ze}(h:zG s=true):(58:UInt8) ∉ s:=Zp (nt h).2 58 (by decide)
theorem Ls{c:UInt8}(h1:uO c=false)(h2:c≠46)(h3:c≠47){t:ze}{p:Nat×Nat}(h:WK t=some p):c ∉ t:=by
 intro hm
 rw[<- List.takeWhile_append_dropWhile (p:=uO) (l:=t)]at hm
 rcases List.mem_append.1 hm with hm | hm
 ·have o8:(t.takeWhile uO).all uO=true:=List.all_takeWhile
  exact Zp o8 c h1 hm
 ·unfold WK at h
  split at h
  ·cases h
  ·split at h
   ·rename_i q; rw[q]at hm; cases hm
   ·rename_i b q hq
    rw[hq]at hm
    split at h
    ·cases h
    ·rename_i hd
     have hdq:qS q=true:=by
      cases hx:qS q with
      | true=>rfl
      | false=>exact absurd (.inr hx) hd
     rcases List.mem_cons.1 hm with rfl | hm
     ·rw[if_neg h2,if_neg h3]at h; cases h
     ·exact Zp hdq c h1 hm
theorem z2L{c:UInt8}(h1:uO c=false)(h2:c≠46)(h3:c≠47)(h4:c≠45){s:ze}{p:Nat×Nat}(h:pn s=some p):c ∉ s:=by
 unfold pn cW at h
 intro hm
 split at h
 ·rename_i hp
  cases s with
  | nil=>cases hm
  | cons b r =>
   have hb:b=45:=by
    have hp:((45:UInt8)==b&&([]:ze).isPrefixOf r)=true:=hp
    rw[Bool.and_eq_true,beq_iff_eq]at hp
    exact hp.1.symm
   rcases List.mem_cons.1 hm with e | hm
   ·exact h4 (e.trans hb)
   ·exact Ls h1 h2 h3 h hm
 ·exact Ls h1 h2 h3 h hm
theorem IM{c:UInt8}(h1:uO c=false)(h2:c≠46)(h3:c≠47)(h4:c≠45){s:ze}{r:Rat}(h:tp s=some r):c ∉ s:=by
 unfold tp at h
 split at h
 ·cases h
 ·cases q:pn s with
  | none=>rw[q]at h; cases h
  | some p=>exact z2L h1 h2 h3 h4 q
theorem cR{x k:ze}(h:zh x k=true){c:UInt8}(hk:c ∉ k):c ∉ x:=by
 rw[xP,decide_eq_true_eq]at h
 rw[h]; exact hk
theorem Qg(c:UInt8)(hc:c≠32):∀ (s cur:ze),c∈cur\/c∈s->∃ x∈xC 32 cur s,c∈x
 | [],cur,h=>by
  rcases h with h | h
  ·unfold xC
   rw[if_neg (λe=>by rw[e]at h; cases h)]
   exact⟨cur,List.mem_singleton.2 rfl,h⟩
  ·cases h
 | b::r,cur,h=>by
  unfold xC
  by_cases hb:b=32
  ·rw[if_pos hb]
   have h:c∈cur\/c∈r:=h.elim .inl λh=>(List.mem_cons.1 h).elim (λe=>absurd (e.trans hb) hc) .inr
   by_cases e:cur=[]
   ·rw[if_pos e]
    refine Qg c hc r [] (.inr (h.elim (λh => ?_) id))
    rw[e]at h; cases h
   ·rw[if_neg e]
    rcases h with h | h
    ·exact⟨cur,List.mem_cons_self,h⟩
    ·obtain⟨x,h1,h2⟩:=Qg c hc r [] (.inr h)
     exact⟨x,List.mem_cons_of_mem _ h1,h2⟩
  ·rw[if_neg hb]
   refine Qg c hc r (cur++[b]) (h.elim (λh=>.inl (List.mem_append_left _ h)) λh=>(List.mem_cons.1 h).elim (λe=>.inl (by rw[e]; simp)) .inr)
theorem Y9:∀ (s cur:ze),cur≠[]->∃ z w,xC 32 cur s=(cur++z)::w
 | [],cur,h=>⟨[],[],by unfold xC; rw[if_neg h,List.append_nil]⟩
 | b::r,cur,h=>by
  unfold xC
  by_cases hb:b=32
  ·rw[if_pos hb,if_neg h]
   exact⟨[],_,by rw[List.append_nil]⟩
  ·rw[if_neg hb]
   obtain⟨z,w,e⟩:=Y9 r (cur++[b]) (by simp)
   exact⟨b::z,w,by rw[e,List.append_assoc]; rfl⟩
theorem HV(r:ze):∀ (h cur:ze),∃ x w,xC 32 cur (h++58::r)=x::w/\((xC 32 cur h=[]/\∃ z,x=58::z)\/∃ a l,xC 32 cur h=a::l/\(x=a\/(l=[]/\∃ z,x=a++58::z)))
 | [],cur=>by
  obtain⟨z,w,e⟩:=Y9 r (cur++[58]) (by simp)
  refine⟨(cur++[58])++z,w,?_,?_⟩
  ·show xC 32 cur (58::r)=_
   rw[<- e]
   exact if_neg (by decide)
  ·unfold xC
   by_cases c:cur=[]
   ·exact .inl ⟨if_pos c,z,by rw[c]; rfl⟩
   ·exact .inr ⟨cur,[],if_neg c,.inr ⟨rfl,z,by rw[List.append_assoc]; rfl⟩⟩
 | b::h,cur=>by
  show ∃ x w,xC 32 cur (b::(h++58::r))=_/\_
  unfold xC
  by_cases hb:b=32
  ·rw[if_pos hb,if_pos hb]
   by_cases c:cur=[]
   ·rw[if_pos c,if_pos c]
    exact HV r h []
   ·rw[if_neg c,if_neg c]
    exact⟨cur,_,rfl,.inr ⟨cur,_,rfl,.inl rfl⟩⟩
  ·rw[if_neg hb,if_neg hb]
   exact HV r h (cur++[b])
theorem zaa{w:List ze}(h0:(Ya w).1=0)(h:zh (wd w 0) [115,119,105,116,99,104]=true):∀ x∈w,(58:UInt8) ∉ x:=by
 unfold Ya at h0
 split at h0
 ·rename_i c
  obtain⟨c1,c2,c3⟩:=c
  match w,c1 with
  | [a,b,d],_ =>
   intro x hx
   simp only[List.mem_cons,List.not_mem_nil,or_false]at hx
   rcases hx with rfl | rfl | rfl
   ·exact cR h (by decide)
   ·exact rM c2
   ·rcases c3 with c3 | c3
    ·exact cR c3 (by decide)
    ·exact cR c3 (by decide)
 ·exact absurd h0 (by decide)
theorem zbH{w:List ze}(h0:(WN w).1=0)(h:zh (wd w 0) [112,97,114,97,109]=true):∀ x∈w,(58:UInt8) ∉ x:=by
 unfold WN at h0
 split at h0
 ·rename_i c
  obtain⟨c1,c2⟩:=c
  match w,c1 with
  | [a,b,d],_ =>
   cases hd:tp (wd [a,b,d] 2)with
   | none=>rw[hd]at h0; exact absurd h0 (show ¬ (2:Int)=0 by decide)
   | some v =>
    intro x hx
    simp only[List.mem_cons,List.not_mem_nil,or_false]at hx
    rcases hx with rfl | rfl | rfl
    ·exact cR h (by decide)
    ·exact rM c2
    ·exact IM (by decide) (by decide) (by decide) (by decide) hd
 ·exact absurd h0 (by decide)
theorem zaR{w:List ze}(h0:(Vc w).1=0)(h:zh (wd w 0) [112,97,103,101]=true):∀ x∈w,(58:UInt8) ∉ x:=by
 unfold Vc at h0
 split at h0
 ·rename_i c
  obtain⟨c1,c2,c3⟩:=c
  unfold UF at c3
  split at c3
  ·rename_i d
   match w,d with
   | [a,b],_ =>
    intro x hx
    simp only[List.mem_cons,List.not_mem_nil,or_false]at hx
    rcases hx with rfl | rfl
    ·exact cR h (by decide)
    ·exact rM c2
  ·split at c3
   ·rename_i d
    obtain⟨d1,d2,d3⟩:=d
    match w,d1 with
    | [a,b,e,f],_ =>
     intro x hx
     simp only[List.mem_cons,List.not_mem_nil,or_false]at hx
     rcases hx with rfl | rfl | rfl | rfl
     ·exact cR h (by decide)
     ·exact rM c2
     ·exact cR (x:=x) d2 (by decide)
     ·exact rM d3
   ·cases c3
 ·exact absurd h0 (by decide)
theorem T6{w:List ze}{k:Int}(h:iJ w=some k):∀ x∈w,(58:UInt8) ∉ x:=by
 unfold iJ at h
 split at h
 ·intro x hx; cases hx
 ·rename_i a c
  split at h
  ·rename_i d
   intro x hx
   simp only[List.mem_cons,List.not_mem_nil,or_false]at hx
   rcases hx with rfl | rfl
   ·exact cR d.1 (by decide)
   ·intro hm
    have:=List.mem_singleton.1 hm
    subst this
    exact absurd d.2.2 (by decide)
  ·cases h
 ·cases h
theorem zdU{np:Nat}{w:List ze}(h0:(Ji np w).1=0)(h:zh (wd w 0) [102,105,101,108,100]=true):∀ x∈w,(58:UInt8) ∉ x:=by
 unfold Ji at h0
 split at h0
 ·rename_i c
  obtain⟨c1,c2,c3⟩:=c
  cases hd:iJ (ye w)with
  | none=>rw[hd]at h0; exact absurd h0 (show ¬ (2:Int)=0 by decide)
  | some v =>
   have hs:=T6 hd
   match w,c1 with
   | a::b::t,_ =>
    intro x hx
    rcases List.mem_cons.1 hx with rfl | hx
    ·exact cR h (by decide)
    ·rcases List.mem_cons.1 hx with rfl | hx
     ·exact rM c2
     ·unfold ye at hs
      rw[show List.drop 2 (a::b::t)=t from rfl]at hs
      cases t with
      | nil=>cases hx
      | cons y t =>
       cases q:dZ (y::t)with
       | true =>
        rw[q,if_pos rfl]at hs
        rcases List.mem_cons.1 hx with rfl | hx
        ·exact cR (show zh x [109,117,115,116]=true from q) (by decide)
        ·exact hs x hx
       | false =>
        rw[q,if_neg (by decide)]at hs
        exact hs x hx
 ·exact absurd h0 (by decide)
theorem z8a(w:List ze):(Ya w).1≠0->Ya w=(2,xE):=by unfold Ya; split; exact λh=>absurd rfl h; exact λ_=>rfl
theorem z7K(w:List ze):(WN w).1≠0->WN w=(2,xE):=by
 unfold WN; split
 ·split
  ·exact λh=>absurd rfl h
  ·exact λ_=>rfl
 ·exact λ_=>rfl
theorem z8K(w:List ze):(Vc w).1≠0->Vc w=(2,xE):=by unfold Vc; split; exact λh=>absurd rfl h; exact λ_=>rfl
theorem z8v(np:Nat)(w:List ze):(Ji np w).1≠0->Ji np w=(2,xE):=by
 unfold Ji; split
 ·split
  ·exact λh=>absurd rfl h
  ·exact λ_=>rfl
 ·exact λ_=>rfl
def z42(np:Nat)(s:ze):Int×gA:=if(wT s [58]).2.2=true then(if zh (wd (xC 32 [] (wT s [58]).1) 0) [99,104,101,99,107]=true then DR np (xC 32 [] (wT s [58]).1) (wT s [58]).2.1
  else if zh (wd (xC 32 [] (wT s [58]).1) 0) [114,117,108,101]=true then K5 (xC 32 [] (wT s [58]).1) (wT s [58]).2.1 else(2,xE))else(2,xE)
def Pt(np:Nat)(s:ze)(w:List ze):Int×gA:=if zh (wd w 0) [115,119,105,116,99,104]=true then Ya w else if zh (wd w 0) [112,97,114,97,109]=true then WN w
 else if zh (wd w 0) [112,97,103,101]=true then Vc w else if zh (wd w 0) [102,105,101,108,100]=true then Ji np w
 else if zh (wd w 0) [99,104,101,99,107]=true\/zh (wd w 0) [114,117,108,101]=true then z42 np s else(2,xE)
theorem RT(np:Nat)(a:ze)(rest:ze):DR np [a] rest=(2,xE):=by unfold DR; exact if_neg (λh=>absurd h.1 (by simp))
theorem Rz(a:ze)(rest:ze):K5 [a] rest=(2,xE):=by unfold K5; exact if_neg (λh=>absurd h.1 (by simp))
theorem Ng(np:Nat)(s:ze)(h:xC 32 [] s=[]):wB np s=(0,xE):=by
 have h58:(58:UInt8) ∉ s:=λhm=>by
  obtain⟨x,hx,_⟩:=Qg 58 (by decide) s [] (.inr hm)
  rw[h]at hx; cases hx
 unfold wB
 rw[dQ 58 s h58,h]
 rfl
theorem dM(np:Nat)(s:ze)(x:ze)(w:List ze):Pt np s (x::w)=if zh x [115,119,105,116,99,104]=true then Ya (x::w)else if zh x [112,97,114,97,109]=true then WN (x::w)
 else if zh x [112,97,103,101]=true then Vc (x::w)else if zh x [102,105,101,108,100]=true then Ji np (x::w)
 else if zh x [99,104,101,99,107]=true\/zh x [114,117,108,101]=true then z42 np s else(2,xE):=rfl
theorem CD(np:Nat)(s:ze)(x:ze)(w:List ze)(h:(58:UInt8)∈x):Pt np s (x::w)=(2,xE):=by
 rw[dM,if_neg (λk=>cR k (by decide) h),if_neg (λk=>cR k (by decide) h),if_neg (λk=>cR k (by decide) h),if_neg (λk=>cR k (by decide) h),
  if_neg (λk=>k.elim (λk=>cR k (by decide) h) (λk=>cR k (by decide) h))]
theorem cv{x a b:ze}(h:zh x a=true)(QQ:a≠b):¬ (zh x b=true):=λk=>by
 rw[xP,decide_eq_true_eq]at h k
 exact QQ (h.symm.trans k)
theorem z06(np:Nat)(s:ze)(x:ze)(w:List ze)(h:xC 32 [] s=x::w):wB np s=if ZO x=true then(0,xE)else Pt np s (x::w):=by
 by_cases h58:(58:UInt8)∈s
 ·obtain⟨a,b,rfl,ha⟩:=List.eq_append_cons_of_mem h58
  have tG:=pX 58 a b ha
  have hl:wB np (a++58::b)=ll np (xC 32 [] a) b true:=by unfold wB; rw[tG]
  obtain⟨x',w',e,hc⟩:=HV b a []
  rw[h]at e
  injection e with e1 e2
  subst e1 e2
  obtain⟨y,hy,ET⟩:=Qg 58 (by decide) (a++58::b) [] (.inr (by simp))
  rw[h]at hy
  rw[hl]
  rcases hc with⟨c1,z,rfl⟩ | ⟨a0,l,c1,c2⟩
  ·rw[c1,if_neg (show ¬ (ZO (58::z)=true) by simp[ZO]),CD _ _ _ _ (by simp)]
   rfl
  ·have vM:a0≠[]:=(Zm 32 a [] a0 (by rw[c1]; exact List.mem_cons_self)).1
   rw[c1,wy,if_pos rfl]
   rcases c2 with rfl | ⟨rfl,z,rfl⟩
   ·split
    ·rfl
    ·rw[dM]
     by_cases k1:zh x [115,119,105,116,99,104]=true
     ·rw[if_pos k1,if_neg (cv k1 (by decide)),if_neg (cv k1 (by decide)),z8a (x::w) λh0=>zaa (w:=x::w) h0 k1 y hy ET]
     ·rw[if_neg k1]
      by_cases k2:zh x [112,97,114,97,109]=true
      ·rw[if_pos k2,if_neg (cv k2 (by decide)),if_neg (cv k2 (by decide)),z7K (x::w) λh0=>zbH (w:=x::w) h0 k2 y hy ET]
      ·rw[if_neg k2]
       by_cases k3:zh x [112,97,103,101]=true
       ·rw[if_pos k3,if_neg (cv k3 (by decide)),if_neg (cv k3 (by decide)),z8K (x::w) λh0=>zaR (w:=x::w) h0 k3 y hy ET]
       ·rw[if_neg k3]
        by_cases k4:zh x [102,105,101,108,100]=true
        ·rw[if_pos k4,if_neg (cv k4 (by decide)),if_neg (cv k4 (by decide)),z8v np (x::w) λh0=>zdU (w:=x::w) h0 k4 y hy ET]
        ·rw[if_neg k4]
         unfold z42
         rw[tG]
         dsimp only
         rw[if_pos rfl,c1]
         show _=if zh x _=true\/_ then(if zh x _=true then _ else if zh x _=true then _ else _)else _
         by_cases k5:zh x [99,104,101,99,107]=true
         ·rw[if_pos k5,if_pos (.inl k5)]
         ·rw[if_neg k5]
          by_cases k6:zh x [114,117,108,101]=true
          ·rw[if_pos k6,if_pos (.inr k6)]
          ·rw[if_neg k6,if_neg (λk=>k.elim k5 k6)]
   ·have hh:ZO (a0++58::z)=ZO a0:=by
     cases a0 with
     | nil=>exact absurd rfl vM
     | cons=>rfl
    rw[hh,CD _ _ _ _ (by simp),RT,Rz]
    split
    ·rfl
    ·split
     ·rfl
     ·split<;>rfl
 ·unfold wB Pt z42
  rw[dQ 58 s h58]
  dsimp only
  rw[h,wy,if_neg (show ¬ (false=true) by decide),if_neg (show ¬ (false=true) by decide)]
  split
  ·rfl
  ·show _=(if zh x _=true then _ else if zh x _=true then _ else if zh x _=true then _ else if zh x _=true then _ else _)
   split
   ·rfl
   ·split
    ·rfl
    ·split
     ·rfl
     ·split
      ·rfl
      ·split<;>rfl
theorem YF(c b:UInt8)(r:ze):jv c (b::r)=if b=c then[]::jv c r else Ok b (jv c r):=rfl
theorem z0R(c:UInt8):∀ (l r:ze),(∀ b∈l,b≠c)->jv c (l++c::r)=l::jv c r
 | [],r,_=>by
  show jv c (c::r)=_
  rw[YF,if_pos rfl]
 | b::l,r,h=>by
  show jv c (b::(l++c::r))=_
  rw[YF,if_neg (h b List.mem_cons_self),z0R c l r λx hx=>h x (List.mem_cons_of_mem _ hx)]
  rfl
def iN:Nat->ze
 | 0=>[]
 | n+1=>32::iN n
theorem EP:∀ (n:Nat) (r:ze),yg (iN n++r)=yg r
 | 0,_=>rfl
 | n+1,r=>by show yg (32::(iN n++r))=_; rw[Ju,EP n r]
theorem z3R(n:Nat){r:ze}(h:o9 r=true):o9 (iN n++r)=true:=by
 cases n with
 | zero=>exact h
 | succ n=>rfl
def sgC(p s:Bool):UInt8:=bif p then(bif s then 47 else 42)else(bif s then 45 else 43)
def sgK(p s:Bool):Int:=bif p then(bif s then 6 else 5)else(bif s then 4 else 3)
def P0(p:Bool):List Bool->ze
 | []=>[]
 | s::r=>sgC p s::98::P0 p r
def sgE(p:Bool):Expr->List Bool->Expr
 | e,[]=>e
 | e,s::r=>sgE p (bc (sgK p s) [e,lv [98]]) r
theorem WR(p:Bool)(l:List Bool):o9 (P0 p l)=true:=by
 cases l with
 | nil=>rfl
 | cons s r=>cases p<;>cases s<;>rfl
theorem GW(c:UInt8)(hc:XG c=true)(d:Nat)(l:Bool)(q:ze)(hq:o9 q=true):SF d l (c::q) (.ok (lv [c]) q l):=by
 have h:=SZ (d:=d) (l:=l) (oy (TU hc):yg (c::q)=c::q) hc
 have hn:zG [c]=true:=by
  unfold zG
  show(true&&(XG c&&(wW c&&true)))=true
  rw[hc,EL hc]; rfl
 have:=KW hn l hq
 have e:E4 (c::q) l=.ok (.mk 2 zQ [c] []) q l:=this
 rw[e]at h
 exact h
theorem Lc:∀ (l:List Bool) (e:Expr),RP 0 e (P0 true l) false (.ok (sgE true e l) [] false)
 | [],e=>rL rfl
 | s::r,e=>by
  have NP:xT [42,47] (P0 true (s::r))=some (sgC true s,98::P0 true r):=by cases s<;>rfl
  refine LI NP (GW 98 (by decide) 0 false _ (WR true r)) ?_
  have:(if sgC true s=42 then(5:Int)else 6)=sgK true s:=by cases s<;>rfl
  rw[this]
  exact Lc r _
theorem TR:∀ (l:List Bool) (e:Expr),RS 0 e (P0 false l) false (.ok (sgE false e l) [] false)
 | [],e=>V8 rfl
 | s::r,e=>by
  have NP:xT [43,45] (P0 false (s::r))=some (sgC false s,98::P0 false r):=by cases s<;>rfl
  have kK:xT [42,47] (P0 false r)=none:=by
   cases r with
   | nil=>rfl
   | cons t r=>cases t<;>rfl
  refine IC NP (Y8 (GW 98 (by decide) 0 false _ (WR false r)) (rL kK)) ?_
  have:(if sgC false s=43 then(3:Int)else 4)=sgK false s:=by cases s<;>rfl
  rw[this]
  exact DD (TR r _)
theorem z5u(c:UInt8)(hc:XG c=true)(d:Nat)(hd:d<32):xB d (lv [c])=true:=by
 refine UO hd ?_ rfl
 show(true&&(true&&(true&&(XG c&&(wW c&&true)))))=true
 rw[hc,EL hc]; rfl
theorem TS(p:Bool):∀ (l:List Bool) (e:Expr) (d:Nat),d+l.length<32->xB (d+l.length) e=true->xB d (sgE p e l)=true
 | [],_,_,_,h=>h
 | s::r,e,d,hd,h=>by
  simp only[List.length_cons]at hd h
  refine TS p r _ d (by omega) (UO (by omega) ?_ ?_)
  ·cases p<;>cases s<;>rfl
  ·show(xB (d+r.length+1) e&&(xB (d+r.length+1) (lv [98])&&true))=true
   rw[show d+r.length+1=d+(r.length+1) by omega,h,z5u 98 (by decide) _ (by omega)]; rfl
theorem Pq(p:Bool):∀ (l:List Bool) (e:Expr),xk (sgE p e l)=xk e+2*l.length
 | [],_=>rfl
 | s::r,e=>by
  show xk (sgE p _ r)=_
  rw[Pq p r,nd2,show xk (lv [98])=1 from rfl,List.length_cons]; omega
theorem EG(p:Bool)(l:List Bool)(hl:l.length<=28):qy (97::P0 p l)=(sgE p (lv [97]) l,((0:Int),(0:Int))):=by
 have hs:SS 0 false (97::P0 p l) (.ok (sgE p (lv [97]) l) [] false):=by
  cases p with
  | true=>exact Im (Y8 (GW 97 (by decide) 0 false _ (WR true l)) (Lc l _)) (V8 rfl)
  | false =>
   have kK:xT [42,47] (P0 false l)=none:=by
    cases l with
    | nil=>rfl
    | cons t r=>cases t<;>rfl
   exact Im (Y8 (GW 97 (by decide) 0 false _ (WR false l)) (rL kK)) (DD (TR l _))
 have hI:Gb (sgE p (lv [97]) l)=true:=by
  unfold Gb
  rw[Pq,TS p l (lv [97]) 0 (by omega) (z5u 97 (by decide) _ (by omega)),decide_eq_true (by rw[show xk (lv [97])=1 from rfl]; omega)]
  rfl
 unfold qy
 rw[Tf hs]
 unfold CR oo
 dsimp only
 rw[if_neg (by decide),hI,if_neg (by simp)]
def je{α:Type}(p:α->α->Bool):List α->List α->Bool
 | [],[]=>true
 | x::l,y::m=>p x y&&je p l m
 | _,_=>false
theorem dY{α:Type}(p:α->α->Bool):∀ {l m:List α},l.length≠m.length->je p l m=false
 | [],[],h=>absurd rfl h
 | [],_::_,_=>rfl
 | _::_,[],_=>rfl
 | x::l,y::m,h=>by
  show(p x y&&je p l m)=false
  rw[dY p (l:=l) (m:=m) (λe=>h (by simp[e])),Bool.and_false]
theorem bH{α:Type}(p:α->α->Bool):∀ {l:List α},(∀ x∈l,p x x=true)->je p l l=true
 | [],_=>rfl
 | x::l,h=>by
  show(p x x&&je p l l)=true
  rw[h x List.mem_cons_self,bH p λy hy=>h y (List.mem_cons_of_mem _ hy)]; rfl
theorem dB{α:Type}(l m:List α)(d:α)(p:α->α->Bool)(hlen:l.length=m.length){r:Int->T (Int⊕(Unit⊕Bool))}
  (step:∀ (k:Nat) (x y:α),k<l.length->nth l (k:Int) d=x->nth m (k:Int) d=y->x∈l->y∈m->(r (k:Int)).run=some (if p x y=true then .inl ((k+1:Nat):Int)else .inr (.inr false)))
  (done:(r (l.length:Int)).run=some (.inr (.inl ()))):(T.loop r 0).run=some (if je p l m=true then .inl ()else .inr false):=by
 have key:∀ (n k:Nat),k+n=l.length->(T.loop r (k:Int)).run=some (if je p (l.drop k) (m.drop k)=true then .inl ()else .inr false):=by
  intro n
  induction n with
  | zero =>
   intro k hk
   have:k=l.length:=by omega
   subst this
   rw[List.drop_length,List.drop_of_length_le (by omega)]
   exact qz done
  | succ n ih =>
   intro k hk
   have h1:k<l.length:=by omega
   have h2:k<m.length:=by omega
   rw[List.drop_eq_getElem_cons h1,List.drop_eq_getElem_cons h2]
   have hs:=step k l[k] m[k] h1 (kO h1 d) (kO h2 d) (List.getElem_mem h1) (List.getElem_mem h2)
   show _=some (if(p l[k] m[k]&&je p (l.drop (k+1)) (m.drop (k+1)))=true then _ else _)
   cases hp:p l[k] m[k]with
   | true =>
    rw[hp,if_pos rfl]at hs
    rw[Bool.true_and]
    exact(vu hs).trans (ih (k+1) (by omega))
   | false =>
    rw[hp,if_neg (by decide)]at hs
    rw[Bool.false_and,if_neg (by decide)]
    exact qz hs
 have:=key l.length 0 (by omega)
 rwa [List.drop_zero,List.drop_zero]at this
def KF(x y:Switch):Bool:=zh x.1 y.1&&((x.2.1==y.2.1)&&true)
def Ut(x y:Param):Bool:=zh x.1 y.1&&cx x.2.1 y.2.1
def Ku(x y:xj):Bool:=zh x.1 y.1&&(zh x.2.1 y.2.1&&true)
def Kz(x y:Field):Bool:=zh x.1 y.1&&((x.2.1==y.2.1)&&((x.2.2.1==y.2.2.1)&&((x.2.2.2.1==y.2.2.2.1)&&true)))
def QF(x y:qH):Bool:=zh x.1 y.1&&((x.2.1==y.2.1)&&(zh x.2.2.1 y.2.2.1&&(sameE x.2.2.2.1 y.2.2.2.1&&sameE x.2.2.2.2.1 y.2.2.2.2.1)))
def X7(x y:Check):Bool:=zh x.1 y.1&&((x.2.1==y.2.1)&&((x.2.2.1==y.2.2.1)&&(sameE x.2.2.2.1 y.2.2.2.1&&sameE x.2.2.2.2.1 y.2.2.2.2.1)))
def Y0(f g:Form):Bool:=je KF f.1 g.1&&(je Ut f.2.1 g.2.1&&(je Ku f.2.2.1 g.2.2.1&&(je Kz f.2.2.2.1 g.2.2.2.1&&(je QF f.2.2.2.2.1 g.2.2.2.2.1&&je X7 f.2.2.2.2.2.1 g.2.2.2.2.2.1))))
theorem K8(a b:List qH)(ha:a.length<=1000)(h1:∀ x∈a,w6 x.2.2.2.1/\w6 x.2.2.2.2.1)(h2:∀ x∈b,w6 x.2.2.2.1/\w6 x.2.2.2.2.1):(gp a b).run=some (je QF a b):=by
 unfold gp
 by_cases c:a.length=b.length
 ·have key:(iG a b 0).run=some (if je QF a b=true then .inl ()else .inr false):=by
   refine dB (r:=ug a b) a b (zk q8) QF c (λk x y hk hx hy mx my => ?_) ?_
   ·obtain⟨x1,x2⟩:=h1 x mx
    obtain⟨y1,y2⟩:=h2 y my
    have i1:=qf hk
    have i2:qw (k:Int) b.length:=qf (by omega)
    unfold ug
    rw[za (uN hk),hx,hy]
    refine(z6 (a := !QF x y) ?_ _).trans ?_
    ·rw[zb i1,zb i2]
     unfold QF
     cases zh x.1 y.1 with
     | false=>rw[za (by rfl),z7]; rfl
     | true =>
      rw[z8 (by rfl),zb i1,zb i2,bne]
      cases(x.2.1==y.2.1)with
      | false=>rw[za (by rfl),z7]; rfl
      | true =>
       rw[z8 (by rfl),zb i1,zb i2]
       cases zh x.2.2.1 y.2.2.1 with
       | false=>rw[za (by rfl),z7]; rfl
       | true =>
        rw[z8 (by rfl),zb i1,zb i2,z6 (bQ _ _ x1.2.2 y1.2.2 (by have:=x1.2.1; omega))]
        cases sameE x.2.2.2.1 y.2.2.2.1 with
        | false=>rw[za (by rfl),z7]; rfl
        | true =>
         rw[z8 (by rfl),zb i1,zb i2,z6 (bQ _ _ x2.2.2 y2.2.2 (by have:=x2.2.1; omega)),z7]; rfl
    ·cases QF x y with
     | false=>rw[za (by rfl),z7]; rfl
     | true=>rw[z8 (by rfl),z7,iU k _ hk (by omega)]; rfl
   ·unfold ug
    rw[z8 (kl _),z7]
  rw[z8 (by rw[c,bne_self_eq_false]),z6 key]
  cases je QF a b<;>rfl
 ·rw[za (by rw[bne_iff_ne]; omega),z7,dY QF c]
theorem Us(a b:List Check)(ha:a.length<=1000)(h1:∀ x∈a,w6 x.2.2.2.1/\w6 x.2.2.2.2.1)(h2:∀ x∈b,w6 x.2.2.2.1/\w6 x.2.2.2.2.1):(yf a b).run=some (je X7 a b):=by
 unfold yf
 by_cases c:a.length=b.length
 ·have key:(fe a b 0).run=some (if je X7 a b=true then .inl ()else .inr false):=by
   refine dB (r:=vG a b) a b (zk zU) X7 c (λk x y hk hx hy mx my => ?_) ?_
   ·obtain⟨x1,x2⟩:=h1 x mx
    obtain⟨y1,y2⟩:=h2 y my
    have i1:=qf hk
    have i2:qw (k:Int) b.length:=qf (by omega)
    unfold vG
    rw[za (uN hk),hx,hy]
    refine(z6 (a := !X7 x y) ?_ _).trans ?_
    ·rw[zb i1,zb i2]
     unfold X7
     cases zh x.1 y.1 with
     | false=>rw[za (by rfl),z7]; rfl
     | true =>
      rw[z8 (by rfl),zb i1,zb i2,bne]
      cases(x.2.1==y.2.1)with
      | false=>rw[za (by rfl),z7]; rfl
      | true =>
       rw[z8 (by rfl),zb i1,zb i2,bne]
       cases(x.2.2.1==y.2.2.1)with
       | false=>rw[za (by rfl),z7]; rfl
       | true =>
        rw[z8 (by rfl),zb i1,zb i2,z6 (bQ _ _ x1.2.2 y1.2.2 (by have:=x1.2.1; omega))]
        cases sameE x.2.2.2.1 y.2.2.2.1 with
        | false=>rw[za (by rfl),z7]; rfl
        | true =>
         rw[z8 (by rfl),zb i1,zb i2,z6 (bQ _ _ x2.2.2 y2.2.2 (by have:=x2.2.1; omega)),z7]; rfl
    ·cases X7 x y with
     | false=>rw[za (by rfl),z7]; rfl
     | true=>rw[z8 (by rfl),z7,iU k _ hk (by omega)]; rfl
   ·unfold vG
    rw[z8 (kl _),z7]
  rw[z8 (by rw[c,bne_self_eq_false]),z6 key]
  cases je X7 a b<;>rfl
 ·rw[za (by rw[bne_iff_ne]; omega),z7,dY X7 c]
theorem K3(f g:Form)(hf:FS f)(hg:FS g):(dH f g).run=some (Y0 f g):=by
 have hn:=hf.n
 unfold dH Y0
 by_cases c1:f.1.length=g.1.length
 case neg=>rw[za (by rw[bne_iff_ne.2 (show((f.1.length:Nat):Int)≠(g.1.length:Int) by omega)]; rfl),z7,dY KF c1]; rfl
 by_cases c2:f.2.1.length=g.2.1.length
 case neg=>rw[za (by rw[bne_iff_ne.2 (show((f.2.1.length:Nat):Int)≠(g.2.1.length:Int) by omega),Bool.true_or,Bool.or_true]),z7,dY Ut c2,Bool.false_and,Bool.and_false]
 by_cases c3:f.2.2.1.length=g.2.2.1.length
 case neg=>rw[za (by rw[bne_iff_ne.2 (show((f.2.2.1.length:Nat):Int)≠(g.2.2.1.length:Int) by omega),Bool.true_or,Bool.or_true,Bool.or_true]),z7,dY Ku c3,Bool.false_and,Bool.and_false,Bool.and_false]
 by_cases c4:f.2.2.2.1.length=g.2.2.2.1.length
 case neg=>rw[za (by rw[bne_iff_ne.2 (show((f.2.2.2.1.length:Nat):Int)≠(g.2.2.2.1.length:Int) by omega),Bool.or_true,Bool.or_true,Bool.or_true]),z7,dY Kz c4,Bool.false_and,Bool.and_false,Bool.and_false,Bool.and_false]
 have l0:(QL f g 0).run=some (if je KF f.1 g.1=true then .inl ()else .inr false):=by
  refine dB (r:=b7 f g) f.1 g.1 (zk zx) KF c1 (λk x y hk hx hy mx my => ?_) ?_
  ·unfold b7
   rw[za (uN hk),zb (qf hk),zb (qf (by omega)),hx,hy]
   show(T.ite (!KF x y) _ _).run=_
   cases KF x y with
   | false=>rw[za (by rfl),z7]; rfl
   | true=>rw[z8 (by rfl),z7,iU k _ hk (by omega)]; rfl
  ·unfold b7
   rw[z8 (kl _),z7]
 have l1:(QE f g 0).run=some (if je Ut f.2.1 g.2.1=true then .inl ()else .inr false):=by
  refine dB (r:=gV f g) f.2.1 g.2.1 (zk zM) Ut c2 (λk x y hk hx hy mx my => ?_) ?_
  ·unfold gV
   have i2:qw (k:Int) g.2.1.length:=qf (by omega)
   rw[za (uN hk),hx,hy]
   refine(z6 (a := !Ut x y) ?_ _).trans ?_
   ·rw[zb (qf hk),zb i2]
    unfold Ut
    cases zh x.1 y.1 with
    | false=>rw[za (by rfl),z7]; rfl
    | true=>rw[z8 (by rfl),zb (qf hk),zb i2,z6 (tb _ _ (hf.p x mx).2 (hg.p y my).2),z7]; rfl
   ·cases Ut x y with
    | false=>rw[za (by rfl),z7]; rfl
    | true=>rw[z8 (by rfl),z7,iU k _ hk (by omega)]; rfl
  ·unfold gV
   rw[z8 (kl _),z7]
 have l2:(Q3 f g 0).run=some (if je Ku f.2.2.1 g.2.2.1=true then .inl ()else .inr false):=by
  refine dB (r:=gE f g) f.2.2.1 g.2.2.1 (zk zV) Ku c3 (λk x y hk hx hy mx my => ?_) ?_
  ·unfold gE
   rw[za (uN hk),zb (qf hk),zb (qf (by omega)),hx,hy]
   show(T.ite (!Ku x y) _ _).run=_
   cases Ku x y with
   | false=>rw[za (by rfl),z7]; rfl
   | true=>rw[z8 (by rfl),z7,iU k _ hk (by omega)]; rfl
  ·unfold gE
   rw[z8 (kl _),z7]
 have l3:(Zd f g 0).run=some (if je Kz f.2.2.2.1 g.2.2.2.1=true then .inl ()else .inr false):=by
  refine dB (r:=gG f g) f.2.2.2.1 g.2.2.2.1 (zk zN) Kz c4 (λk x y hk hx hy mx my => ?_) ?_
  ·unfold gG
   rw[za (uN hk),zb (qf hk),zb (qf (by omega)),hx,hy]
   show(T.ite (!Kz x y) _ _).run=_
   cases Kz x y with
   | false=>rw[za (by rfl),z7]; rfl
   | true=>rw[z8 (by rfl),z7,iU k _ hk (by omega)]; rfl
  ·unfold gG
   rw[z8 (kl _),z7]
 rw[z8 (by rw[c1,c2,c3,c4]; simp),z6 l0]
 cases je KF f.1 g.1 with
 | false=>rfl
 | true =>
  rw[if_pos rfl,Sum.elim_inl,z6 l1,Bool.true_and]
  cases je Ut f.2.1 g.2.1 with
  | false=>rfl
  | true =>
   rw[if_pos rfl,Sum.elim_inl,z6 l2,Bool.true_and]
   cases je Ku f.2.2.1 g.2.2.1 with
   | false=>rfl
   | true =>
    rw[if_pos rfl,Sum.elim_inl,z6 l3,Bool.true_and]
    cases je Kz f.2.2.2.1 g.2.2.2.1 with
    | false=>rfl
    | true =>
     rw[if_pos rfl,Sum.elim_inl,z6 (K8 _ _ (by omega) (λx hx=>(hf.r x hx).2.2) (λx hx=>(hg.r x hx).2.2)),Bool.true_and]
     cases je QF f.2.2.2.2.1 g.2.2.2.2.1 with
     | false=>rfl
     | true=>rw[zj,z6 (Us _ _ (by omega) (λx hx=>(hf.c x hx).2) (λx hx=>(hg.c x hx).2)),z7]; rfl
theorem FR(a:Rat):cx a a=true:=by
 have:=yv (.mk 0 a [] [])
 have h:((0:Int)==0&&(zh ([]:ze) []&&(cx a a&&sameEs [] [])))=true:=this
 simp only[Bool.and_eq_true]at h
 exact h.2.2.1
theorem F5(f:Form):Y0 f f=true:=by
 unfold Y0
 rw[bH KF,bH Ut,bH Ku,bH Kz,bH QF,bH X7]
 ·rfl
 all_goals intro x _
 ·unfold X7; rw[qq,beq_self_eq_true,beq_self_eq_true,yv,yv]; rfl
 ·unfold QF; rw[qq,beq_self_eq_true,qq,yv,yv]; rfl
 ·unfold Kz; rw[qq,beq_self_eq_true,beq_self_eq_true,beq_self_eq_true]; rfl
 ·unfold Ku; rw[qq,qq]; rfl
 ·unfold Ut; rw[qq,FR]; rfl
 ·unfold KF; rw[qq,beq_self_eq_true]; rfl
def cw:Expr:=.mk 1 (fB [50]) [] []
theorem Jj(d:Nat)(hd:d<32):xB d cw=true:=by
 have h:vR (.mk 1 (fB [50]) [] [])=true:=by
  unfold vR
  show((((0:Nat):Int)==dW 1)&&(if(1:Int)=1 then wY (fB [50])&&zh [] []else _))=true
  rw[if_pos rfl,z2b]
  rfl
 show(decide (d<32)&&(vR (.mk 1 (fB [50]) [] [])&&ub (d+1) []))=true
 rw[h,decide_eq_true hd]; rfl
theorem PJ:Gb cw=true:=by
 unfold Gb
 rw[Jj 0 (by decide)]
 rfl
theorem IU:prE cw=[50]:=by
 show(qs (norm (fB [50])).1 (nv (norm (fB [50])).2.1) (nv (norm (fB [50])).2.2.1) 0 61).1=[50]
 rw[N2,RF]
 show(qs false 2 1 0 61).1=[50]
 unfold qs
 rw[if_pos (by decide)]
 show QS false++UB (pr 2) 0=[50]
 unfold UB pr
 rw[if_pos rfl,if_neg (by decide),cX (by decide),show 2 / 10=0 from rfl,cf]
 rfl
theorem z1h:qy [97]=(lv [97],((0:Int),(0:Int))):=EG true [] (by decide)
theorem z3V:qy [50]=(cw,((0:Int),(0:Int))):=by
 have h:mg zQ [50]=.ok cw [] false:=by kernel_rfl
 unfold qy
 rw[h]
 unfold CR oo
 dsimp only
 rw[if_neg (by decide),PJ,if_neg (by simp)]
theorem z0w:qO [97,61,50]=(lv [97],(cw,((0:Int),(0:Int)))):=by
 have h:yH [97,61,50]=some ([97],0,[50]):=rfl
 unfold qO
 rw[h]
 dsimp only
 rw[z1h,z3V]
 rfl
def knS:ze:=[112,97,103,101,32,112,10,102,105,101,108,100,32,32,97,32,109,117,115,116,10,114,117,108,101,32,119,101,97,107,32,114,58,97,61,50,10]
def knF:gA:=([],[],[([112],([],()))],[([97],(0,(true,(0,()))))],[([114],(3,([],(lv [97],(cw,())))))],[])
theorem CF:ur (jv 10 knS) xE 0=.inr knF:=by
 have e:jv 10 knS=[[112,97,103,101,32,112],[102,105,101,108,100,32,32,97,32,109,117,115,116],[114,117,108,101,32,119,101,97,107,32,114,58,97,61,50],[]]:=by decide +kernel
 have l1:wB 0 [112,97,103,101,32,112]=(0,[],[],[([112],([],()))],[],[],[]):=rfl
 have l2:wB 1 [102,105,101,108,100,32,32,97,32,109,117,115,116]=(0,[],[],[],[([97],(0,(true,(0,()))))],[],[]):=rfl
 have l3:wB 1 [114,117,108,101,32,119,101,97,107,32,114,58,97,61,50]=(0,[],[],[],[],[([114],(3,([],(lv [97],(cw,())))))],[]):=by
  have:wB 1 [114,117,108,101,32,119,101,97,107,32,114,58,97,61,50]=K5 [[114,117,108,101],[119,101,97,107],[114]] [97,61,50]:=rfl
  rw[this]
  unfold K5
  rw[z0w]
  rfl
 have l4:wB 1 []=(0,xE):=rfl
 rw[e]
 unfold ur
 rw[show wB xE.2.2.1.length [112,97,103,101,32,112]=_ from l1,if_pos rfl]
 unfold ur
 rw[show wB (bm xE (([],[],[([112],([],()))],[],[],[]):gA)).2.2.1.length [102,105,101,108,100,32,32,97,32,109,117,115,116]=_ from l2,if_pos rfl]
 unfold ur
 rw[show wB (bm (bm xE (([],[],[([112],([],()))],[],[],[]):gA)) (([],[],[],[([97],(0,(true,(0,()))))],[],[]):gA)).2.2.1.length [114,117,108,101,32,119,101,97,107,32,114,58,97,61,50]=_ from l3,if_pos rfl]
 rfl
theorem CE{s:ze}(h:s.length<=600){S:gA}(hl:ur (jv 10 s) xE 0=.inr S):FS (Ie S):=by
 obtain⟨g,ht⟩:=UE _ _ _ _ hl z5W
 have:=B0 10 s
 have h0:LF xE=0:=rfl
 exact⟨by rw[h0]at ht; unfold LF at ht; show S.1.length+S.2.1.length+S.2.2.1.length+S.2.2.2.1.length+S.2.2.2.2.1.length+S.2.2.2.2.2.length<=601; omega,g.s,g.p,g.g,g.d,g.r,g.c⟩
def knT:ze:=[112,97,103,101,32,112,10,102,105,101,108,100,32,97,32,109,117,115,116,10,114,117,108,101,32,119,101,97,107,32,114,32,58,32,97,32,61,32,50,10]
theorem MM:Gw (Ie knF)=knT:=by
 have h1:Be (lv [97]) [61] cw=[32,58,32,97,32,61,32,50,10]:=by
  unfold Be
  rw[IU]
  rfl
 have h2:Z8 ([114],(3,([],(lv [97],(cw,())))))=[114,117,108,101,32,119,101,97,107,32,114,32,58,32,97,32,61,32,50,10]:=by
  unfold Z8
  dsimp only
  rw[h1]
  rfl
 show([]++[]++(List.range 1).flatMap (JX (Ie knF))++(Z8 ([114],(3,([],(lv [97],(cw,())))))++[]))=_
 rw[h2]
 rfl
theorem Tn:cY (Ie knF)=true:=by
 have h6:a6 (Ie knF)=true:=by
  show(!(iQ ([114],(3,([],(lv [97],(cw,())))))||false))=true
  have:iQ ([114],(3,([],(lv [97],(cw,())))))=false:=by
   show(!(zG [114])||(!(yy [])||(false||(false||(!(xB 0 (lv [97])) || !(xB 0 cw))))))=false
   rw[Jj 0 (by decide)]
   rfl
  rw[this]; rfl
 unfold cY
 rw[h6,MM]
 rfl
theorem FU:mn.run=some true:=by
 have hp:(jA knS).run=some (Ie knF,((0:Int),(0:Int))):=by
  rw[nQ knS (λS h=>CE (by decide) h)]
  unfold GX
  rw[if_neg (by decide),CF]
  dsimp only
  rw[Tn]
  rfl
 have hF:FS (Ie knF):=CE (s:=knS) (by decide) CF
 have hp2:(fH (Ie knF)).run=some knT:=by
  unfold fH
  rw[z6 (ZT _ hF),Tn,z8 (by rfl)]
  have h:=Tn
  unfold cY at h
  simp only[Bool.and_eq_true]at h
  rw[z6 (nU _ (UM hF h.2.2.2.1 h.2.2.2.2.1 h.2.2.2.2.2.1)),z7,MM]
 unfold mn
 rw[show([112,97,103,101,32,112,10,102,105,101,108,100,32,32,97,32,109,117,115,116,10,114,117,108,101,32,119,101,97,107,32,114,58,97,61,50,10]:ze)=knS from rfl,z6 hp]
 dsimp only
 rw[za (by rfl),za (by rfl),z6 hp2,z7]
 rfl
def bp{α:Type}(s:α->Nat)(l:List α):Nat:=(l.map s).sum
theorem rm{α:Type}{s:α->Nat}{l:List α}{x:α}(h:x∈l):s x<=bp s l:=by
 unfold bp
 induction l with
 | nil=>cases h
 | cons y r ih =>
  rw[List.map_cons,List.sum_cons]
  rcases List.mem_cons.1 h with rfl | h
  ·omega
  ·have:=ih h; omega
theorem lU{α:Type}(l:List α)(d:α)(s:α->Nat){r:Int×Int->T ((Int×Int)⊕Int)}(hl:l.length<=1048576)
  (h1:∀ (n:Int) (k:Nat) (x:α),k<l.length->x∈l->nth l (k:Int) d=x->0<=n->n<=600->∃ n',(r (n,(k:Int))).run=some (.inl (n',zF ((k:Int)+1))) /\ -10000000000<=n'/\n'<=n/\(0<=n'->n'+s x<=n))
  (h2:∀ (n:Int) (k:Nat),¬ (k<l.length/\0<=n)->(r (n,(k:Int))).run=some (.inr n)) (n:Int) (hn : -10000000000<=n) (JF:n<=600) :
  ∃ n',(T.loop r (n,0)).run=some n' /\ -10000000000<=n'/\n'<=600/\(0<=n'->n'+bp s l<=n):=by
 refine T.qI (λz:Int×Int=>∃ k:Nat,z.2=(k:Int)/\k<=l.length /\ -10000000000<=z.1/\z.1<=600/\(0<=z.1->z.1+bp s (l.take k)<=n)) (λz=>l.length-z.2.toNat) _ (λz hz => ?_) ⟨0,rfl,by omega,hn,JF,λ_=>by simp[bp]⟩
 obtain⟨m,i⟩:=z
 obtain⟨k,rfl,hk,hm,D6,hP⟩:=hz
 dsimp only at hm D6 hP ⊢
 by_cases c:k<l.length/\0<=m
 ·left
  obtain⟨n',g1,g2,g3,g4⟩:=h1 m k l[k] c.1 (List.getElem_mem c.1) (kO c.1 d) c.2 D6
  rw[iU k _ c.1 (by omega)]at g1
  refine⟨_,g1,⟨k+1,rfl,c.1,g2,by dsimp only; omega,λh0 => ?_⟩,by dsimp only; omega⟩
  have:=hP c.2
  have:=g4 h0
  rw[List.take_succ_eq_append_getElem c.1]
  unfold bp at *
  rw[List.map_append,List.sum_append]
  simp only[List.map_cons,List.map_nil,List.sum_cons,List.sum_nil]
  omega
 ·right
  refine⟨m,h2 m k c,hm,D6,λh0 => ?_⟩
  have:k=l.length:=by
   by_cases q:k<l.length
   ·exact absurd ⟨q,h0⟩ c
   ·omega
  have:=hP h0
  subst k
  rwa [List.take_length]at this
theorem ig(e:Expr)(left:Int)(h0 : -100000000000<=left)(h1:left<=600)(hb:bkE e<=1000000000):(jx e left).run=some (wtE e left):=by
 unfold jx
 refine fJ (λx:Expr×Int => -100000000000<=x.2/\x.2<=600/\bkE x.1<=1000000000) (λx=>bkE x.1) (λx=>wtE x.1 x.2) (λx hx g hg => ?_) (x:=(e,left)) ⟨h0,h1,hb⟩
 obtain⟨e,left⟩:=x
 obtain⟨h0,h1,hx⟩:=hx
 simp only at hx hg h0 h1
 have hk:=X5 e
 have hkl:=Dw e.kids
 have loop:∀ acc:Int,-1000000000000<=acc->acc<=600->(od (λy0 y1=>g (y0,y1)) e (acc,0)).run=some (wtEs e.kids acc):=by
  intro acc a1 a2
  refine G3 e.kids (zk .expr) (λb i=>(b,i)) (λb r=>b<=600/\∀ x∈r,x∈e.kids) (λr b=>wtEs r b) ?_ ?_ ⟨a2,λx hx=>hx⟩
  ·rintro b x xs i hi0 hi hx ⟨b1,b2⟩
   by_cases WZ:0<=b
   ·have hm:=BQ (b2 x List.mem_cons_self)
    have hr:=hg (x,b) ⟨by simp only; omega,b1,by simp only; omega⟩ (by simp only; omega)
    simp only at hr
    have:=(Xb x b).1
    refine .inl ⟨wtE x b,?_,⟨by omega,λy hy=>b2 y (List.mem_cons_of_mem _ hy)⟩,?_⟩
    ·simp(disch:=omega) [jI,hi,hx,WZ,hr]
    ·simp[wtEs,WZ]
   ·right
    have hw:wtEs (x::xs) b=b:=PX _ _ WZ
    simp[jI,hi,WZ,hw]
  ·rintro b _
   simp[jI,wtEs]
 unfold bM
 cases e with | mk k n s kids =>
 simp only[Expr.kids,Expr.name,Expr.num,bkE]at *
 have hL:=loop (left-3-s.length-8*n.2.1.length-8*n.2.2.1.length) (by omega) (by omega)
 simp(disch:=omega) [zA,hL,wtE]
def wPa(x:Param):Nat:=8*x.2.1.2.1.length+8*x.2.1.2.2.1.length+x.1.length
def wSw(x:Switch):Nat:=x.1.length
def wFd(x:Field):Nat:=x.1.length
def wPg(x:xj):Nat:=x.1.length+x.2.1.length
def wRu(x:qH):Nat:=x.1.length+x.2.2.1.length+szE x.2.2.2.1+szE x.2.2.2.2.1
def wCk(x:Check):Nat:=x.1.length+szE x.2.2.2.1+szE x.2.2.2.2.1
def nF(f:Form):Nat:=f.1.length+f.2.1.length+f.2.2.1.length+f.2.2.2.1.length+f.2.2.2.2.1.length+f.2.2.2.2.2.1.length
def wF(f:Form):Nat:=20*nF f+bp wPa f.2.1+bp wSw f.1+bp wPg f.2.2.1+bp wFd f.2.2.2.1+bp wRu f.2.2.2.2.1+bp wCk f.2.2.2.2.2.1
theorem Fs(f:Form)(h:FB f):∃ b,(eL f).run=some b/\(b=false->wF f<=600):=by
 obtain⟨hl1,fy,hl3,hl4,hl5,hl6,hs,hp,hg,hd,hr,hc⟩:=h
 obtain⟨n1,r1,a1,b1,P1⟩:=lU f.2.1 (zk zM) wPa (r:=kZ f) fy (λn k x hk hx hn h0 h6=>by
  obtain⟨q1,q2,q3,_⟩:=hp x hx
  refine⟨n-8*x.2.1.2.1.length-8*x.2.1.2.2.1.length-x.1.length,?_,by omega,by omega,λ_=>by unfold wPa; omega⟩
  simp(disch:=omega) [kZ,hk,h0,hn,zA])
  (λn k hk=>by simp[kZ,hk]) (600-20*(nF f:Int)) (by unfold nF; omega) (by omega)
 obtain⟨n2,r2,a2,b2,P2⟩:=lU f.1 (zk zx) wSw (r:=kT f) hl1 (λn k x hk hx hn h0 h6=>by
  have q1:=hs x hx
  refine⟨n-x.1.length,?_,by omega,by omega,λ_=>by unfold wSw; omega⟩
  simp(disch:=omega) [kT,hk,h0,hn,zA])
  (λn k hk=>by simp[kT,hk]) n1 a1 b1
 obtain⟨n3,r3,a3,b3,P3⟩:=lU f.2.2.1 (zk zV) wPg (r:=kR f) hl3 (λn k x hk hx hn h0 h6=>by
  obtain⟨q1,q2⟩:=hg x hx
  refine⟨n-x.1.length-x.2.1.length,?_,by omega,by omega,λ_=>by unfold wPg; omega⟩
  simp(disch:=omega) [kR,hk,h0,hn,zA])
  (λn k hk=>by simp[kR,hk]) n2 a2 b2
 obtain⟨n4,r4,a4,b4,P4⟩:=lU f.2.2.2.1 (zk zN) wFd (r:=y7 f) hl4 (λn k x hk hx hn h0 h6=>by
  have q1:=hd x hx
  refine⟨n-x.1.length,?_,by omega,by omega,λ_=>by unfold wFd; omega⟩
  simp(disch:=omega) [y7,hk,h0,hn,zA])
  (λn k hk=>by simp[y7,hk]) n3 a3 b3
 obtain⟨n5,r5,a5,b5,P5⟩:=lU f.2.2.2.2.1 (zk q8) wRu (r:=y3 f) hl5 (λn k x hk hx hn h0 h6=>by
  obtain⟨q1,q2,q3,q4⟩:=hr x hx
  have m1:=Xb x.2.2.2.1 (n-x.1.length-x.2.2.1.length)
  have m2:=Xb x.2.2.2.2.1 (wtE x.2.2.2.1 (n-x.1.length-x.2.2.1.length))
  have s1:=Ja x.2.2.2.1 (n-x.1.length-x.2.2.1.length)
  have s2:=Ja x.2.2.2.2.1 (wtE x.2.2.2.1 (n-x.1.length-x.2.2.1.length))
  have w1:=ig x.2.2.2.1 (n-x.1.length-x.2.2.1.length) (by omega) (by omega) (by omega)
  have w2:=ig x.2.2.2.2.1 (wtE x.2.2.2.1 (n-x.1.length-x.2.2.1.length)) (by omega) (by omega) (by omega)
  refine⟨_,?_,by omega,Int.le_trans m2.1 (by omega),λh=>by have:=s2 h; have:=s1 (by omega); unfold wRu; omega⟩
  simp(disch:=omega) [y3,hk,h0,hn,zA,w1,w2])
  (λn k hk=>by simp[y3,hk]) n4 a4 b4
 obtain⟨n6,r6,a6,b6,P6⟩:=lU f.2.2.2.2.2.1 (zk zU) wCk (r:=kW f) hl6 (λn k x hk hx hn h0 h6=>by
  obtain⟨q1,q3,q4⟩:=hc x hx
  have m1:=Xb x.2.2.2.1 (n-x.1.length)
  have m2:=Xb x.2.2.2.2.1 (wtE x.2.2.2.1 (n-x.1.length))
  have s1:=Ja x.2.2.2.1 (n-x.1.length)
  have s2:=Ja x.2.2.2.2.1 (wtE x.2.2.2.1 (n-x.1.length))
  have w1:=ig x.2.2.2.1 (n-x.1.length) (by omega) (by omega) (by omega)
  have w2:=ig x.2.2.2.2.1 (wtE x.2.2.2.1 (n-x.1.length)) (by omega) (by omega) (by omega)
  refine⟨_,?_,by omega,Int.le_trans m2.1 (by omega),λh=>by have:=s2 h; have:=s1 (by omega); unfold wCk; omega⟩
  simp(disch:=omega) [kW,hk,h0,hn,zA,w1,w2])
  (λn k hk=>by simp[kW,hk]) n5 a5 b5
 refine⟨decide (n6<0),?_,λhb => ?_⟩
 ·unfold eL
  have e0:∀ a b c d e g:Int,0<=a->a<=1048576->0<=b->b<=1048576->0<=c->c<=1048576->0<=d->d<=1048576->0<=e->e<=1048576->0<=g->g<=1048576->zF ((600:Int)-zF (20*zF (zF (zF (zF (zF (a+b)+c)+d)+e)+g)))=600-20*(a+b+c+d+e+g):=by
   intros; simp(disch:=omega) only[zA]
  rw[e0 _ _ _ _ _ _ (by omega) (by omega) (by omega) (by omega) (by omega) (by omega) (by omega) (by omega) (by omega) (by omega) (by omega) (by omega)]
  have r1:(sR f (600-20*((f.1.length:Int)+f.2.1.length+f.2.2.1.length+f.2.2.2.1.length+f.2.2.2.2.1.length+f.2.2.2.2.2.1.length),0)).run=some n1:=by
   rw[<- r1]; unfold nF; congr
  have r2:(sP f (n1,0)).run=some n2:=r2
  have r3:(sN f (n2,0)).run=some n3:=r3
  have r4:(sC f (n3,0)).run=some n4:=r4
  have r5:(sy f (n4,0)).run=some n5:=r5
  have r6:(sZ f (n5,0)).run=some n6:=r6
  simp[r1,r2,r3,r4,r5,r6]
 ·have:=of_decide_eq_false hb
  unfold wF
  omega
theorem zbW{f:Form}(h:wF f<=600):FL f:=by
 have a1:∀ x∈f.1,x.1.length<=bp wSw f.1:=λx hx=>rm (s:=wSw) hx
 have a2:∀ x∈f.2.1,8*x.2.1.2.1.length+8*x.2.1.2.2.1.length+x.1.length<=bp wPa f.2.1:=λx hx=>rm (s:=wPa) hx
 have a3:∀ x∈f.2.2.1,x.1.length+x.2.1.length<=bp wPg f.2.2.1:=λx hx=>rm (s:=wPg) hx
 have a4:∀ x∈f.2.2.2.1,x.1.length<=bp wFd f.2.2.2.1:=λx hx=>rm (s:=wFd) hx
 have a5:∀ x∈f.2.2.2.2.1,x.1.length+x.2.2.1.length+szE x.2.2.2.1+szE x.2.2.2.2.1<=bp wRu f.2.2.2.2.1:=λx hx=>rm (s:=wRu) hx
 have a6:∀ x∈f.2.2.2.2.2.1,x.1.length+szE x.2.2.2.1+szE x.2.2.2.2.1<=bp wCk f.2.2.2.2.2.1:=λx hx=>rm (s:=wCk) hx
 unfold wF nF at h
 refine⟨by omega,λx hx => ?_,λx hx => ?_,λx hx => ?_,λx hx => ?_,λx hx => ?_,λx hx => ?_⟩
 ·have:=a1 x hx; omega
 ·have:=a2 x hx; omega
 ·have:=a3 x hx; omega
 ·have:=a4 x hx; omega
 ·have:=a5 x hx; omega
 ·have:=a6 x hx; omega
theorem z3S(f:Form)(hw:wf qc f)(hb:bk qc f<=1048576):∃ b,(eL f).run=some b/\(b=false->FS f/\wF f<=600):=by
 obtain⟨b,hr,hf⟩:=Fs f (z5O hw hb)
 exact⟨b,hr,λh=>⟨z9O hw (z5O hw hb) (zbW (hf h)),hf h⟩⟩
def prF(f:Form):ze:=if cY f=true then Gw f else[]
theorem LD{f:Form}(hF:FS f)(h:cY f=true):CC f:=by
 unfold cY at h
 simp only[Bool.and_eq_true]at h
 exact UM hF h.2.2.2.1 h.2.2.2.2.1 h.2.2.2.2.2.1
theorem Uh(f:Form)(h:FS f):(eA f).run=some (prF f):=by
 unfold eA prF
 rw[z6 (p7 f h)]
 cases c:cY f with
 | false=>rfl
 | true=>rw[z8 (by rfl),z6 (sF f (LD h c))]; rfl
theorem Es{n:Rat}(h:uK n)(hb:wY n=true):(qs (norm n).1 (nv (norm n).2.1) (nv (norm n).2.2.1) 0 61).1.length<=225:=by
 obtain⟨h1,h2,h3,h4⟩:=iV hb
 have e:=dy h h1
 have hd:=eI n.1 (nv n.2.1) (nv n.2.2.1)
 have hd:nv (norm n).2.2.1≠0:=hd
 rcases hx:qs (norm n).1 (nv (norm n).2.1) (nv (norm n).2.2.1) 0 61 with⟨s,b⟩
 rw[hx]at h4
 cases h4
 obtain⟨j,_,g2,_,rfl⟩:=lY _ _ _ hd 61 0 s hx
 unfold um at h3
 rw[Bool.or_eq_false_iff,decide_eq_false_iff_not]at h3
 have l1:(zu (nv (norm n).2.1)).length<=16:=by have:=zw (ki (k:=100) (by omega) h).1; omega
 have l2:=VT _ 16 l1
 have l3:nv (norm n).2.1*10 ^ j / nv (norm n).2.2.1<10 ^ (160+j):=by
  refine Nat.lt_of_le_of_lt (Nat.div_le_self _ _) ?_
  rw[Nat.pow_add]
  exact Nat.mul_lt_mul_of_pos_right l2 (Nat.pow_pos (by omega))
 have l4:=Ts _ _ (by omega) l3
 have l7:(QS (norm n).1).length<=1:=by unfold QS; split<;>simp
 dsimp only
 rw[List.length_append]
 by_cases hj:j=0
 ·subst hj
  unfold UB
  rw[if_pos rfl]
  omega
 ·obtain⟨w,p,e,_,_,_,hp,_,hw⟩:=sk (pr (nv (norm n).2.1*10 ^ j / nv (norm n).2.2.1)) j hj (iH _).1
  rw[e,List.length_append,List.length_cons]
  omega
theorem z0D:∀ (m:Nat) (e:Expr) (d:Nat),xk e<=m->xB d e=true->allOk e->(prE e).length<=25*szE e:=by
 intro m
 induction m with
 | zero=>intro e d hm; cases e; unfold xk at hm; omega
 | succ m ih =>
  intro e d hm ho ha
  cases e with | mk k n s l =>
  obtain⟨hk,hl⟩:=lM ho
  obtain⟨hn,cT⟩:=ha
  have Du:xk (.mk k n s l)=1+wz l:=rfl
  have uH:szE (.mk k n s l)=3+s.length+8*n.2.1.length+8*n.2.2.1.length+szEs l:=rfl
  rw[Du]at hm
  rw[uH]
  have FM:(decide (d<32)&&(vR (.mk k n s l)&&ub (d+1) l))=true:=ho
  show(if k=1 then(qs (norm n).1 (nv (norm n).2.1) (nv (norm n).2.2.1) 0 61).1 else if k=2 then s else gD k (prL l)).length<=_
  by_cases h1:k=1
  ·subst h1
   simp only[Bool.and_eq_true,vR,Expr.kind,Expr.num,if_true]at FM
   have hb:=FM.2.1.2.1
   have:=Es hn hb
   obtain⟨q1,_⟩:=iV hb
   have e:=dy hn q1
   have hd:=eI n.1 (nv n.2.1) (nv n.2.2.1)
   have hd:nv (norm n).2.2.1≠0:=hd
   have:n.2.2.1.length≠0:=λh=>by rw[e,List.eq_nil_of_length_eq_zero h]at hd; exact hd rfl
   rw[if_pos rfl]; omega
  ·rw[if_neg h1]
   by_cases h2:k=2
   ·rw[if_pos h2]; omega
   ·rw[if_neg h2]
    match l,hl,cT,hm with
    | [],_,_,_=>show(gD k []).length<=_; unfold gD; simp
    | [a],hl,cT,hm =>
     have Rn:xB (d+1) a=true:=by
      have:(xB (d+1) a&&ub (d+1) [])=true:=hl
      simp only[Bool.and_eq_true]at this; exact this.1
     have:=ih a (d+1) (by have:wz [a]=xk a+0:=rfl; omega) Rn cT.1
     have e1:szEs [a]=szE a+0:=rfl
     have hp:=vH (decide (zr a.kind<3)) (prE a)
     show([45]++vO (decide (zr a.kind<3)) (prE a)).length<=_
     rw[List.length_append,List.length_singleton,e1]; omega
    | [a,b],hl,cT,hm =>
     have QQ:xB (d+1) a=true/\xB (d+1) b=true:=by
      have:(xB (d+1) a&&(xB (d+1) b&&ub (d+1) []))=true:=hl
      simp only[Bool.and_eq_true]at this; exact⟨this.1,this.2.1⟩
     have e0:wz [a,b]=xk a+(xk b+0):=rfl
     have h3:=ih a (d+1) (by omega) QQ.1 cT.1
     have h4:=ih b (d+1) (by omega) QQ.2 cT.2.1
     have e1:szEs [a,b]=szE a+(szE b+0):=rfl
     have hp:=vH (decide (zr a.kind<zr k)) (prE a)
     have hq:=vH (decide (zr b.kind<zr k+1)) (prE b)
     have hm':=rW k
     show(vO (decide (zr a.kind<zr k)) (prE a)++ta k++vO (decide (zr b.kind<zr k+1)) (prE b)).length<=_
     rw[List.length_append,List.length_append,e1]; omega
    | a::b::c::r,_,_,_=>show(gD k _).length<=_; unfold prL prL prL gD; simp
theorem z2x{e:Expr}(h:xB 0 e=true)(ha:allOk e):(prE e).length<=25*szE e:=z0D (xk e) e 0 (Nat.le_refl _) h ha
theorem U2{α:Type}(f:α->ze)(s:α->Nat)(l:List α)(h:∀ x∈l,(f x).length<=25*(20+s x)):(l.flatMap f).length<=25*(20*l.length+bp s l):=by
 unfold bp
 induction l with
 | nil=>simp
 | cons x r ih =>
  have h1:=h x List.mem_cons_self
  have h2:=ih λy hy=>h y (List.mem_cons_of_mem _ hy)
  rw[List.flatMap_cons,List.length_append,List.map_cons,List.sum_cons,List.length_cons]
  omega
theorem DW{α:Type}{s t:α->Nat}{l:List α}(h:∀ x∈l,s x<=t x):bp s l<=bp t l:=by
 unfold bp
 induction l with
 | nil=>simp
 | cons x r ih =>
  have:=h x List.mem_cons_self
  have:=ih λy hy=>h y (List.mem_cons_of_mem _ hy)
  rw[List.map_cons,List.map_cons,List.sum_cons,List.sum_cons]; omega
theorem Hs{α:Type}(s t:α->Nat)(l:List α):bp (λx=>s x+t x) l=bp s l+bp t l:=by
 unfold bp
 induction l with
 | nil=>rfl
 | cons x r ih=>rw[List.map_cons,List.map_cons,List.map_cons,List.sum_cons,List.sum_cons,List.sum_cons,ih]; omega
theorem YD{α:Type}(c:Nat)(l:List α):bp (λ_:α=>c) l=c*l.length:=by
 unfold bp
 induction l with
 | nil=>rfl
 | cons x r ih=>rw[List.map_cons,List.sum_cons,ih,List.length_cons,Nat.mul_add]; omega
theorem Ld{α:Type}(c:Nat)(s:α->Nat)(l:List α):bp (λx=>c*s x) l=c*bp s l:=by
 unfold bp
 induction l with
 | nil=>rfl
 | cons x r ih=>rw[List.map_cons,List.map_cons,List.sum_cons,List.sum_cons,ih,Nat.mul_add]
theorem z8b{α:Type}(s:α->Nat)(l:List α)(d:α):bp (λi:Nat=>s (nth l (i:Int) d)) (List.range l.length)=bp s l:=by
 unfold bp
 congr 1
 apply List.ext_getElem<;>simp
 intro i h
 simp[nth,h]
theorem L9{α:Type}(p:α->Int)(w:α->Nat)(l:List α)(n:Int):bp (λx=>if 0<=p x/\p x<n then 25*(20+w x)else 0) l<=25*(20*l.length+bp w l):=by
 refine Nat.le_trans (DW (t:=λx=>500+25*w x) λx _=>by split<;>omega) ?_
 rw[Hs (λ_=>500) λx=>25*w x,YD,Ld]
 omega
theorem I6{α:Type}(f:α->ze)(l:List α):(l.flatMap f).length=bp (λx=>(f x).length) l:=by
 unfold bp
 induction l with
 | nil=>rfl
 | cons x r ih=>rw[List.flatMap_cons,List.length_append,List.map_cons,List.sum_cons,ih]
theorem C9{α:Type}(p:α->Int)(c:α->Nat)(l:List α)(g:Nat->Nat)(q:Nat->α->Nat)(hq:∀ i x,x∈l->q i x<=if p x=(i:Int)then c x else 0) :
  ∀ n,bp (λi=>g i+bp (q i) l) (List.range n)<=bp g (List.range n)+bp (λx=>if 0<=p x/\p x<(n:Int)then c x else 0) l:=by
 intro n
 induction n with
 | zero=>simp[bp]
 | succ n ih =>
  have e:∀ h:Nat->Nat,bp h (List.range (n+1))=bp h (List.range n)+h n:=λh=>by unfold bp; rw[List.range_succ,List.map_append,List.sum_append]; simp
  rw[e,e]
  have:=DW (s:=λx=>(if 0<=p x/\p x<(n:Int)then c x else 0)+q n x) (t:=λx=>if 0<=p x/\p x<((n+1:Nat):Int)then c x else 0) (l:=l) λx hx=>by
   have:=hq n x hx
   by_cases h1:p x=(n:Int)
   ·rw[if_pos h1]at this; rw[if_neg (by omega),if_pos (by omega)]; omega
   ·rw[if_neg h1]at this
    by_cases h2:0<=p x/\p x<(n:Int)
    ·rw[if_pos h2,if_pos (by omega)]; omega
    ·rw[if_neg h2]; omega
  rw[Hs]at this
  omega
theorem Sj(x:Param)(h:wh 100 x.2.1):(JW x).length<=25*(20+wPa x):=by
 obtain⟨q1,q2,q3,q4⟩:=ki (k:=x.2.1.2.1.length+x.2.1.2.2.1.length+1) (by omega) (a:=x.2.1) ⟨h.1,h.2.1,by omega,by omega⟩
 have p1:=Vn (nv (norm x.2.1).2.1) _ (by omega) (Nat.le_trans (zw q1) q3)
 have p2:=Vn (nv (norm x.2.1).2.2.1) _ (by omega) (Nat.le_trans (zw q2) q4)
 have l7:(QS (norm x.2.1).1).length<=1:=by unfold QS; split<;>simp
 unfold JW wPa vg
 split<;>simp only[List.length_append,List.length_cons,List.length_nil]<;>omega
theorem RN{n:Int}(h:0<n)(h9:n<=9):(cQ n).length=1:=by
 rw[<- Z4 n (by omega) h9]; rfl
theorem z7C{f:Form}(h:CC f):(Gw f).length<=25*wF f:=by
 have e1:=U2 YZ wSw f.1 λx hx=>by unfold YZ wSw; cases x.2.1<;>simp<;>omega
 have e2:=U2 JW wPa f.2.1 λx hx=>Sj x (h.p x hx).2
 have e5:=U2 Z8 wRu f.2.2.2.2.1 λx hx=>by
  obtain⟨_,_,a,b⟩:=h.r x hx
  obtain⟨_,_,c,d⟩:=h.r2 x hx
  have:=z2x c a.2.2
  have:=z2x d b.2.2
  have:=fY x.2.2.1
  have:=oS x.2.1
  unfold Z8 Be wRu
  simp only[List.length_append,List.length_cons,List.length_nil]
  omega
 have e3:((List.range f.2.2.1.length).flatMap (JX f)).length<=25*(20*f.2.2.1.length+bp wPg f.2.2.1)+25*(20*f.2.2.2.1.length+bp wFd f.2.2.2.1)+25*(20*f.2.2.2.2.2.1.length+bp wCk f.2.2.2.2.2.1):=by
  have k1:=C9 (λx:Field=>x.2.1) (λx=>25*(20+wFd x)) f.2.2.2.1 (λi=>(E8 (nth f.2.2.1 (i:Int) (zk zV))).length) (λi x=>(Gp i x).length) (λi x hx=>by
   unfold Gp
   by_cases c:x.2.1=(i:Int)
   ·rw[if_pos (beq_iff_eq.2 c),if_pos c]
    unfold Ph fhS wFd
    have:=(h.d2 x hx).2
    split
    ·rename_i c2
     have:=RN c2 (by omega)
     cases x.2.2.1<;>simp<;>omega
    ·cases x.2.2.1<;>simp<;>omega
   ·rw[if_neg (by simpa using c)]; simp) f.2.2.1.length
  have k2:=C9 (λx:Check=>x.2.1) (λx=>25*(20+wCk x)) f.2.2.2.2.2.1 (λi=>(E8 (nth f.2.2.1 (i:Int) (zk zV))).length+bp (λx=>(Gp i x).length) f.2.2.2.1) (λi x=>(HG i x).length) (λi x hx=>by
   unfold HG
   by_cases c:x.2.1=(i:Int)
   ·rw[if_pos (beq_iff_eq.2 c),if_pos c]
    obtain⟨_,a,b⟩:=h.c x hx
    obtain⟨_,_,d,e⟩:=h.c2 x hx
    have:=z2x d a.2.2
    have:=z2x e b.2.2
    have:=pJ x.2.2.1
    unfold Sw Be wCk
    simp only[List.length_append,List.length_cons,List.length_nil]
    omega
   ·rw[if_neg (by simpa using c)]; simp) f.2.2.1.length
  have m1:=L9 (λx:Field=>x.2.1) wFd f.2.2.2.1 (f.2.2.1.length:Nat)
  have m2:=L9 (λx:Check=>x.2.1) wCk f.2.2.2.2.2.1 (f.2.2.1.length:Nat)
  have m3:bp (λi:Nat=>(E8 (nth f.2.2.1 (i:Int) (zk zV))).length) (List.range f.2.2.1.length)<=25*(20*f.2.2.1.length+bp wPg f.2.2.1):=by
   rw[z8b (λx:xj=>(E8 x).length)]
   refine Nat.le_trans (DW (t:=λx=>500+25*wPg x) λx _ => ?_) ?_
   ·have:=fY x.2.1
    unfold E8 wPg
    simp only[List.length_append,List.length_cons,List.length_nil]
    omega
   ·rw[Hs (λ_=>500) λx=>25*wPg x,YD,Ld]; omega
  rw[I6]
  have e:(λi=>(JX f i).length)=λi:Nat=>(E8 (nth f.2.2.1 (i:Int) (zk zV))).length+bp (λx=>(Gp i x).length) f.2.2.2.1+bp (λx=>(HG i x).length) f.2.2.2.2.2.1:=by
   funext i
   unfold JX
   rw[List.length_append,List.length_append,I6,I6]
  rw[e]
  omega
 unfold wF nF Gw
 rw[List.length_append,List.length_append,List.length_append]
 omega
theorem Jh{f:Form}(h:cY f=true):a1 f=true/\a2 f=true/\a3 f=true/\a4 f=true/\a5 f=true/\a6 f=true:=by
 unfold cY at h
 simp only[Bool.and_eq_true]at h
 exact⟨h.1,h.2.1,h.2.2.1,h.2.2.2.1,h.2.2.2.2.1,h.2.2.2.2.2.1⟩
theorem Fm(x:ze)(l:List ze)(S:gA)(k:Nat):ur (x::l) S k=if(wB S.2.2.1.length x).1=0 then ur l (bm S (wB S.2.2.1.length x).2) (k+1)else .inl (k+1,(wB S.2.2.1.length x).1):=rfl
theorem z47(S:gA):bm S xE=S:=ZU S.1 S.2.1 S.2.2.1 S.2.2.2.1 S.2.2.2.2.1 S.2.2.2.2.2
theorem N9{line:ze}(h:∀ np,wB np line=(0,xE))(l:List ze)(S:gA)(k:Nat):ur (line::l) S k=ur l S (k+1):=by
 conv=>lhs; unfold ur
 rw[h,if_pos rfl,z47]
end Go.AM.Lf
