/-
  Plain laws of the lifted program, part 2.
-/
import Derived.Test.YthhgaidlooddpaaGreatDoorLf0
import Derived.Test.YthhgaidlooddpaaGreatDoorAmA
import Derived.Test.YthhgaidlooddpaaGreatDoorAmD
import Derived.Test.YthhgaidlooddpaaGreatDoorQ0
import Derived.Test.YthhgaidlooddpaaGreatDoorQ1
set_option linter.unusedVariables false
open Go.AM.T (Je iY lF qR uh z6 z7 z8 zH za zb zg zi zn)
namespace Go.AM.Lf
open PL
mutual
def dH(deep:Nat)(left:Int):Expr->Bool×Int
 | .mk k n s l=>if left-1<0\/(decide (deep<32)&&uF (.mk k n s l))=false then(false,left-1)else yv (deep+1) (left-1) l
def yv(deep:Nat)(left:Int):List Expr->Bool×Int
 | []=>(true,left)
 | e::r=>if(dH deep left e).1=true then yv deep (dH deep left e).2 r else(false,(dH deep left e).2)
end
mutual
theorem Kb:∀ (e:Expr) (d:Nat) (left:Int),0<=left->(dH d left e).1=(wK d e&&decide ((wA e:Int)<=left))/\((dH d left e).1=true->(dH d left e).2=left-wA e)/\(dH d left e).2<=left /\ -1<=(dH d left e).2
 | .mk k n s l,d,left,h=>by
  have e1:wK d (.mk k n s l)=((decide (d<32)&&uF (.mk k n s l))&&uv (d+1) l):=by unfold wK; rw[Bool.and_assoc]
  have e2:wA (.mk k n s l)=1+wR l:=rfl
  unfold dH
  rw[e1,e2]
  by_cases c:left-1<0
  ·rw[if_pos (.inl c)]
   refine⟨?_,λh=>by simp at h,by omega,by dsimp only; omega⟩
   dsimp only
   rw[show decide (((1+wR l:Nat):Int)<=left)=false from decide_eq_false (by omega),Bool.and_false]
  ·cases q:(decide (d<32)&&uF (.mk k n s l))with
   | false=>rw[if_pos (.inr rfl)]; exact⟨rfl,λh=>by simp at h,by dsimp only; omega,by dsimp only; omega⟩
   | true =>
    rw[if_neg (by rintro(h | h); exact c h; simp at h),Bool.true_and]
    obtain⟨h1,h2,h3,h4⟩:=Hy l (d+1) (left-1) (by omega)
    refine⟨?_,λh=>by rw[h2 h]; omega,by omega,by omega⟩
    rw[h1]
    congr 1
    exact decide_eq_decide.2 (by omega)
theorem Hy:∀ (l:List Expr) (d:Nat) (left:Int),0<=left->(yv d left l).1=(uv d l&&decide ((wR l:Int)<=left))/\((yv d left l).1=true->(yv d left l).2=left-wR l)/\(yv d left l).2<=left /\ -1<=(yv d left l).2
 | [],d,left,h=>by
  refine⟨?_,λ_ => ?_,Int.le_refl _,?_⟩
  ·show true=(true&&decide (((0:Nat):Int)<=left)); simp; omega
  ·show left=left-((0:Nat):Int); omega
  ·show -1<=left; omega
 | e::r,d,left,h=>by
  have e1:uv d (e::r)=(wK d e&&uv d r):=rfl
  have e2:wR (e::r)=wA e+wR r:=rfl
  obtain⟨h1,h2,h3,h4⟩:=Kb e d left h
  unfold yv
  rw[e1,e2]
  cases q:(dH d left e).1 with
  | false =>
   rw[if_neg (by simp)]
   refine⟨?_,λh=>by simp at h,h3,h4⟩
   dsimp only
   rw[q]at h1
   cases ho:wK d e with
   | false=>rfl
   | true =>
    rw[ho,Bool.true_and]at h1
    have:=of_decide_eq_false h1.symm
    rw[show decide (((wA e+wR r:Nat):Int)<=left)=false from decide_eq_false (by omega),Bool.and_false]
  | true =>
   rw[if_pos rfl]
   have hq:=h2 q
   rw[q]at h1
   have h1:=h1.symm
   rw[Bool.and_eq_true,decide_eq_true_eq]at h1
   obtain⟨g1,g2,g3,g4⟩:=Hy r d (dH d left e).2 (by omega)
   refine⟨?_,λh=>by rw[g2 h]; omega,by omega,by omega⟩
   rw[g1,h1.1,Bool.true_and]
   congr 1
   exact decide_eq_decide.2 (by omega)
end
theorem C7(e:Expr)(deep:Nat)(left:Int)(h:allOk e)(hl:wA e<=1000000)(hl0:0<=left)(dJ:left<=100000)(hd:deep<=32):(jn e (deep:Int) left).run=some (dH deep left e):=by
 unfold jn
 refine iY (λx:Expr×Int×Int=>allOk x.1/\0<=x.2.1/\x.2.1<=32/\wA x.1<=1000000/\0<=x.2.2/\x.2.2<=100000) (λx=>wA x.1) (λx=>dH x.2.1.toNat x.2.2 x.1) (λx hx g hg => ?_) (x:=(e,(deep:Int),left)) ⟨h,by dsimp only; omega,by dsimp only; omega,by dsimp only; omega,by dsimp only; omega,by dsimp only; omega⟩
 obtain⟨e,d,L⟩:=x
 obtain⟨ha,II,BJ,hn,zbw,hlf⟩:=hx
 dsimp only at ha II BJ hn zbw hlf
 obtain⟨D,rfl⟩:∃ D:Nat,d=(D:Int):=⟨d.toNat,by omega⟩
 cases e with | mk k n s kids =>
 obtain⟨X3,Gs⟩:=ha
 have Dy:wA (.mk k n s kids)=1+wR kids:=by unfold wA; rfl
 rw[Dy]at hn
 have ew:zF (L-1)=L-1:=zu (by omega) (by omega)
 have NH:=WM (.mk k n s kids) X3
 simp only[Int.toNat_natCast]
 unfold gx
 rw[ew]
 have head:((.ite (decide ((L-1)<(0:Int))) (.ret (true,L-1)) (.ite (decide ((32:Int)<=(D:Int))) (.ret (true,L-1)) (T.bind (yr (.mk k n s kids)) λr=>.ret ((!r),L-1)))):T (Bool×Int)).run =
   some (decide (L-1<0\/(decide (D<32)&&uF (.mk k n s kids))=false),L-1):=by
  by_cases c0:L-1<0
  ·rw[za (decide_eq_true c0),z7,decide_eq_true (.inl c0)]
  ·rw[z8 (decide_eq_false c0)]
   by_cases c:D<32
   ·rw[z8 (decide_eq_false (by omega)),z6 NH,z7,decide_eq_true c,Bool.true_and]
    cases uF (.mk k n s kids)<;>simp[c0]
   ·rw[za (decide_eq_true (by omega)),z7,decide_eq_false c,Bool.false_and]
    simp
 rw[z6 head]
 dsimp only
 unfold dH
 by_cases q:L-1<0\/(decide (D<32)&&uF (.mk k n s kids))=false
 ·rw[za (decide_eq_true q),z7,if_pos q]
 ·rw[z8 (decide_eq_false q),if_neg q]
  have q1:¬ L-1<0:=λh=>q (.inl h)
  have hD:D<32:=by
   by_cases c:D<32
   ·exact c
   ·exact absurd (.inr (by rw[decide_eq_false c]; rfl)) q
  have ed:zF ((D:Int)+1)=((D+1:Nat):Int):=by rw[zu (by omega) (by omega)]; omega
  have loop:∃ z,(zN (λy0 y1 y2=>g (y0,y1,y2)) kids (kids.length:Int) (((D:Int),()),((0:Int),L-1))).run=some z /\
    (((yv (D+1) (L-1) kids).1=true/\z=.inl (yv (D+1) (L-1) kids).2)\/((yv (D+1) (L-1) kids).1=false/\∃ i:Int,0<=i/\z=.inr (i,(yv (D+1) (L-1) kids).2))):=by
   refine T.qE (r:=zx (λy0 y1 y2=>g (y0,y1,y2)) kids (kids.length:Int)) (λst:(Int×Unit)×Int×Int=>∃ (j:Nat) (B:Int),st=(((D:Int),()),(j:Int),B)/\j<=kids.length/\0<=B/\B<=100000 /\
    yv (D+1) B (kids.drop j)=yv (D+1) (L-1) kids) (λst=>kids.length-st.2.1.toNat) _ (λst xE => ?_) ⟨0,L-1,rfl,by omega,by omega,by omega,by rw[List.drop_zero]⟩
   obtain⟨j,B,rfl,hj,hB0,hB,K5⟩:=xE
   by_cases c:j<kids.length
   ·have hdr:kids.drop j=kids[j]::kids.drop (j+1):=List.drop_eq_getElem_cons c
    rw[hdr]at K5
    rw[show yv (D+1) B (kids[j]::kids.drop (j+1))=if(dH (D+1) B kids[j]).1=true then yv (D+1) (dH (D+1) B kids[j]).2 (kids.drop (j+1))else(false,(dH (D+1) B kids[j]).2)from rfl]at K5
    have sU:=sb Gs _ (List.getElem_mem c)
    have Is:=Kb kids[j] (D+1) B hB0
    have CI:wA kids[j]<1+wR kids:=by have:=so (List.getElem_mem c); omega
    have QY:=hg (kids[j],((D+1:Nat):Int),B) ⟨sU,by dsimp only; omega,by dsimp only; omega,by dsimp only; omega,by dsimp only; omega,by dsimp only; omega⟩ (by dsimp only; rw[Dy]; exact CI)
    dsimp only at QY
    simp only[Int.toNat_natCast]at QY
    have hf:(uI (λy0 y1 y2=>g (y0,y1,y2)) kids[j] (D:Int) B).run=some (!(dH (D+1) B kids[j]).1,(dH (D+1) B kids[j]).2):=by
     unfold uI
     rw[ed,z6 QY]; rfl
    unfold zx
    dsimp only
    rw[za (kl c),zb (qp c),dq c,z6 hf]
    dsimp only
    cases hk:(dH (D+1) B kids[j]).1 with
    | true =>
     left
     rw[hk,if_pos rfl]at K5
     rw[z8 (by rfl),z7]
     have hlen:=sJ kids
     rw[oy j _ c (by omega)]
     have hb:=Is.1
     rw[hk]at hb
     have hb:=hb.symm
     rw[Bool.and_eq_true,decide_eq_true_eq]at hb
     have h2:=Is.2.1 hk
     refine⟨_,rfl,⟨j+1,(dH (D+1) B kids[j]).2,rfl,c,by omega,by omega,K5⟩,?_⟩
     simp only[Int.toNat_natCast]
     omega
    | false =>
     right
     rw[hk,if_neg (by simp)]at K5
     rw[za (by rfl),z7]
     exact⟨_,rfl,.inr ⟨by rw[<- K5],(j:Int),by omega,by rw[<- K5]⟩⟩
   ·right
    have hj2:j=kids.length:=by omega
    subst hj2
    rw[List.drop_length]at K5
    unfold zx
    dsimp only
    rw[z8 (gS _),z7]
    exact⟨_,rfl,.inl ⟨by rw[<- K5]; rfl,by rw[<- K5]; rfl⟩⟩
  obtain⟨z,hz,hc⟩:=loop
  have hcf:(zW (λy0 y1 y2=>g (y0,y1,y2)) kids ((D:Int),()) (L-1)).run=some (!(yv (D+1) (L-1) kids).1,(yv (D+1) (L-1) kids).2):=by
   unfold zW qx
   rcases hc with⟨ho,rfl⟩ | ⟨ho,i,hi,rfl⟩
   ·have:((T.bind (zN (λy0 y1 y2=>g (y0,y1,y2)) kids (kids.length:Int) (((D:Int),()),((0:Int),L-1)))<|Sum.elim (λv2=>.ret ((-1:Int),v2)) (λ(x2,v3)=>.ret (x2,v3))):T (Int×Int)).run=some (-1,(yv (D+1) (L-1) kids).2):=by
     rw[z6 hz]; rfl
    rw[z6 this,ho]; rfl
   ·have:((T.bind (zN (λy0 y1 y2=>g (y0,y1,y2)) kids (kids.length:Int) (((D:Int),()),((0:Int),L-1)))<|Sum.elim (λv2=>.ret ((-1:Int),v2)) (λ(x2,v3)=>.ret (x2,v3))):T (Int×Int)).run=some (i,(yv (D+1) (L-1) kids).2):=by
     rw[z6 hz]; rfl
    rw[z6 this,ho,z7,decide_eq_true hi]; rfl
  rw[show Expr.kids (.mk k n s kids)=kids from rfl,z6 hcf]
  dsimp only
  rw[z7,Bool.not_not]
def Ce(e:Expr):Bool:=wK 0 e&&decide (wA e<=256)
theorem Iq(e:Expr)(h:allOk e)(hn:wA e<=1000000):(vZ e).run=some (Ce e):=by
 unfold vZ Ce
 have:=C7 e 0 256 h hn (by omega) (by omega) (by omega)
 have this:(jn e 0 256).run=some (dH 0 256 e):=this
 rw[z6 this,z7,(Kb e 0 256 (by omega)).1]
 congr 2
 exact decide_eq_decide.2 (by omega)
def y9(e:Expr):Prop:=allOk e/\bkE e<=300*wA e
def PR.eU(N:Nat):PR->Prop
 | .ok e r _=>y9 e/\wA e+r.length<=N
 | _=>True
theorem K0(e:Expr):1<=wA e:=by cases e; unfold wA; omega
theorem jL:ye q7:=⟨gM,gM,by show(0:Nat)<=100; omega,by show(0:Nat)<=100; omega⟩
theorem ow(k:Int)(n:Rat)(s:zf)(hn:ye n)(hs:s.length<=24):y9 (.mk k n s []):=by
 refine⟨⟨hn,trivial⟩,?_⟩
 have h3:=hn.2.2.1
 have h4:=hn.2.2.2
 show 1+((1+((List.length n.2.1+1)+((List.length n.2.2.1+1)+1)))+((List.length s+1)+((0+1)+1)))<=300*(1+0)
 omega
theorem BF(k:Int){a:Expr}(h:y9 a):y9 (pL k [a]):=by
 refine⟨⟨jL,h.1,trivial⟩,?_⟩
 show 1+((1+((0+1)+((0+1)+1)))+((0+1)+(((bkE a+0)+1)+1)))<=300*(1+(wA a+0))
 have:=h.2
 omega
theorem Cv(k:Int){a b:Expr}(h:y9 a)(h2:y9 b):y9 (pL k [a,b]):=by
 refine⟨⟨jL,h.1,h2.1,trivial⟩,?_⟩
 show 1+((1+((0+1)+((0+1)+1)))+((0+1)+(((bkE a+(bkE b+0))+1)+1)))<=300*(1+(wA a+(wA b+0)))
 have:=h.2
 have:=h2.2
 omega
theorem nd1(k:Int)(a:Expr):wA (pL k [a])=1+wA a:=rfl
theorem nd2(k:Int)(a b:Expr):wA (pL k [a,b])=1+(wA a+wA b):=rfl
theorem PR.oL{N:Nat}{R:PR}{f:Expr->zf->Bool->PR}{M:Nat}(h:R.eU M)(hf:∀ e r l,y9 e->wA e+r.length<=M->(f e r l).eU N):(R.bind f).eU N:=by
 cases R with
 | no=>trivial
 | er=>trivial
 | ok e r l=>exact hf e r l h.1 h.2
theorem TI(t:zf)(ht:t.length<=400):ye (oU t):=by
 unfold oU
 split
 ·rename_i n d h
  have:=Q2 (List.isPrefixOf [45] t) ht h
  exact⟨this.1,this.2.1,by have:=this.2.2.1; omega,by have:=this.2.2.2; omega⟩
 ·exact jL
theorem Zo{z:Rat}(hz:ye z)(t r:zf)(l:Bool)(N:Nat)(h:r.length+1<=N):(XJ z t r l).eU N:=by
 unfold XJ
 split
 ·exact⟨ow 1 z [] hz (by simp),by show 1+0+r.length<=N; omega⟩
 ·exact⟨ow 1 _ [] (TI t (by omega)) (by simp),by show 1+0+r.length<=N; omega⟩
theorem LC{z:Rat}(hz:ye z)(d:Nat)(c:UInt8)(r:zf)(l:Bool)(hc:kg c=true):(We z d (c::r) l).eU (c::r).length:=by
 have hd:(c::r).dropWhile kg=r.dropWhile kg:=by rw[List.dropWhile_cons_of_pos hc]
 have hl:=(ic kg r).length_le
 unfold We
 rw[hd]
 split
 ·exact Zo hz _ _ _ _ (by simp)
 ·rename_i c' q e
  rw[e]at hl
  split
  ·split
   ·trivial
   ·have:=(ic kg q).length_le
    simp only[List.length_cons]at hl
    exact Zo hz _ _ _ _ (by simp only[List.length_cons]; omega)
  ·exact Zo hz _ _ _ _ (by simp only[List.length_cons]at hl ⊢; omega)
theorem Gy(p:UInt8->Bool):∀ (n:Nat) (r:zf),(gi p n r).1.length<=n
 | 0,_=>by unfold gi; simp
 | _+1,[]=>by unfold gi; simp
 | n+1,c::r=>by
  have:=Gy p n r
  unfold gi
  split
  ·simp only[List.length_cons]; omega
  ·simp
theorem Cx{c:UInt8}(h:QI c=true):vY c=true:=by unfold vY; rw[h]; rfl
theorem Ik(c:UInt8)(r:zf)(l:Bool)(hc:QI c=true):(C4 (c::r) l).eU (c::r).length:=by
 have h1:=Gy vY 24 (c::r)
 have h2:=congrArg List.length (tO vY 24 (c::r))
 have h3:(gi vY 24 (c::r)).1=c::(gi vY 23 r).1:=by
  show(if vY c=true then(c::(gi vY 23 r).1,(gi vY 23 r).2)else([],c::r)).1=_
  rw[if_pos (Cx hc)]
 rw[List.length_append,h3]at h2
 refine⟨ow 2 q7 _ jL h1,?_⟩
 show 1+0+(gi vY 24 (c::r)).2.length<=_
 simp only[List.length_cons]at h2 ⊢
 omega
theorem ZA{m r q:zf}{c:UInt8}(h:jc m r=some (c,q)):q.length+1<=r.length:=by
 have:=(fV h).1.length_le
 simpa using this
theorem JW{K:Bool->zf->PR}(hK:∀ l q,(K l q).eU q.length)(m1 m2:UInt8)(k1 k2:Int):∀ (n:Nat) (e:Expr) (r:zf) (l:Bool) (N:Nat),y9 e->wA e+r.length<=N->(yc K m1 m2 k1 k2 n e r l).eU N
 | 0,_,_,_,_,_,_=>trivial
 | n+1,e,r,l,N,he,hN=>by
  unfold yc
  split
  ·exact⟨he,by have:=Yt r; omega⟩
  ·rename_i c q ht
   have hq:=ZA ht
   refine PR.oL (hK l q) λe2 q2 l2 h1 h2 => ?_
   refine JW hK m1 m2 k1 k2 n _ q2 l2 N (Cv _ he h1) ?_
   rw[nd2]
   omega
theorem Jf{K:Bool->zf->PR}(hK:∀ l q,(K l q).eU q.length)(m1 m2:UInt8)(k1 k2:Int)(n:Nat)(l:Bool)(r:zf):(rowP K m1 m2 k1 k2 n l r).eU r.length :=
 PR.oL (hK l r) λe q l' h1 h2=>JW hK m1 m2 k1 k2 n e q l' _ h1 h2
theorem Lb{z:Rat}(hz:ye z){F S:Nat->Bool->zf->PR}(hF:∀ d l q,(F d l q).eU q.length)(hS:∀ d l q,(S d l q).eU q.length)(d:Nat)(l:Bool)(r:zf):(tu z F S d l r).eU r.length:=by
 have hk:=Yt r
 unfold tu
 split
 ·trivial
 ·rename_i c q e
  rw[e]at hk
  simp only[List.length_cons]at hk
  split
  ·split
   ·trivial
   ·refine PR.oL (hF _ _ _) λe2 r2 l2 h1 h2=>⟨BF 7 h1,?_⟩
    rw[nd1]; omega
  ·split
   ·split
    ·trivial
    ·refine PR.oL (hS _ _ _) λe2 r2 l2 h1 h2 => ?_
     split
     ·rename_i ht
      have:=ZA ht
      exact⟨h1,by omega⟩
     ·trivial
   ·split
    ·rename_i hc
     have:=LC hz d c q l hc
     cases w:We z d (c::q) l with
     | no=>trivial
     | er=>trivial
     | ok e2 r2 l2=>rw[w]at this; exact⟨this.1,by have:=this.2; simp only[List.length_cons]at this; omega⟩
    ·split
     ·rename_i hc
      have:=Ik c q l hc
      exact⟨this.1,by have:=this.2; simp only[List.length_cons]at this; omega⟩
     ·trivial
theorem KE{z:Rat}(hz:ye z):∀ (n:Nat),(∀ d l r,(pF z n d l r).eU r.length)/\(∀ d l r,(pP z n d l r).eU r.length)/\(∀ d l r,(pS z n d l r).eU r.length)
 | 0=>⟨λ_ _ _=>by unfold pF; trivial,λ_ _ _=>by unfold pP; trivial,λ_ _ _=>by unfold pS; trivial⟩
 | n+1=>by
  obtain⟨h1,h2,h3⟩:=KE hz n
  refine⟨λd l r => ?_,λd l r => ?_,λd l r => ?_⟩
  ·unfold pF; exact Lb hz h1 h3 d l r
  ·unfold pP; exact Jf (h1 d) _ _ _ _ n l r
  ·unfold pS; exact Jf (h2 d) _ _ _ _ n l r
theorem PR.Xf{R:PR}{f:Expr->zf->Bool->PR}{M:Nat}(h:R≠.no)(hg:R.eU M)(hf:∀ e r l,y9 e->wA e+r.length<=M->f e r l≠.no):R.bind f≠.no:=by
 cases R with
 | no=>exact absurd rfl h
 | er=>intro h; cases h
 | ok e r l=>exact hf e r l hg.1 hg.2
theorem Bf{K:Bool->zf->PR}(hK:∀ l q,(K l q).eU q.length)(m1 m2:UInt8)(k1 k2:Int):∀ (n:Nat) (e:Expr) (r:zf) (l:Bool),(∀ l q,q.length<=r.length->K l q≠.no)->r.length+1<=n->yc K m1 m2 k1 k2 n e r l≠.no
 | 0,_,_,_,_,h=>by omega
 | n+1,e,r,l,hT,h=>by
  unfold yc
  split
  ·intro h; cases h
  ·rename_i c q ht
   have hq:=ZA ht
   refine PR.Xf (hT l q (by omega)) (hK l q) λe2 q2 l2 h1 h2 => ?_
   have:=K0 e2
   exact Bf hK m1 m2 k1 k2 n _ q2 l2 (λl q3 h3=>hT l q3 (by omega)) (by omega)
theorem Hg{K:Bool->zf->PR}(hK:∀ l q,(K l q).eU q.length)(m1 m2:UInt8)(k1 k2:Int)(n:Nat)(l:Bool)(r:zf)(hT:∀ l q,q.length<=r.length->K l q≠.no)(h:r.length<=n):rowP K m1 m2 k1 k2 n l r≠.no:=by
 refine PR.Xf (hT l r (Nat.le_refl _)) (hK l r) λe q l' h1 h2 => ?_
 have:=K0 e
 exact Bf hK m1 m2 k1 k2 n e q l' (λl q3 h3=>hT l q3 (by omega)) (by omega)
theorem Mt(z:Rat)(d:Nat)(r:zf)(l:Bool):We z d r l≠.no:=by
 have fin:∀ t q,XJ z t q l≠.no:=λt q=>by unfold XJ; split<;>(intro h; cases h)
 unfold We
 split
 ·exact fin _ _
 ·split
  ·split
   ·intro h; cases h
   ·exact fin _ _
  ·exact fin _ _
theorem Rs{z:Rat}(hz:ye z):∀ (n:Nat),(∀ d l r,3*r.length+1<=n->pF z n d l r≠.no)/\(∀ d l r,3*r.length+2<=n->pP z n d l r≠.no)/\(∀ d l r,3*r.length+3<=n->pS z n d l r≠.no)
 | 0=>⟨λ_ _ _ h=>by omega,λ_ _ _ h=>by omega,λ_ _ _ h=>by omega⟩
 | n+1=>by
  obtain⟨h1,h2,h3⟩:=Rs hz n
  obtain⟨g1,g2,g3⟩:=KE hz n
  refine⟨λd l r h => ?_,λd l r h => ?_,λd l r h => ?_⟩
  ·unfold pF
   have hk:=Yt r
   unfold tu
   split
   ·intro h; cases h
   ·rename_i c q e
    rw[e]at hk
    simp only[List.length_cons]at hk
    split
    ·split
     ·intro h; cases h
     ·exact PR.Xf (h1 _ _ _ (by omega)) (g1 _ _ _) λ_ _ _ _ _=>by intro h; cases h
    ·split
     ·split
      ·intro h; cases h
      ·refine PR.Xf (h3 _ _ _ (by omega)) (g3 _ _ _) λ_ _ _ _ _ => ?_
       split<;>(intro h; cases h)
     ·split
      ·exact Mt z d _ l
      ·split<;>(intro h; cases h)
  ·unfold pP
   exact Hg (g1 d) _ _ _ _ n l r (λl q hq=>h1 d l q (by omega)) (by omega)
  ·unfold pS
   exact Hg (g2 d) _ _ _ _ n l r (λl q hq=>h2 d l q (by omega)) (by omega)
theorem D3(s:zf)(hs:s.length<=1000000)(ST:KT)(N:Nat)(hS:∀ m,m<=N->∀ d l r,d<=31->r <:+ s->pS q7 m d l r≠.no->(ST (qz s r d l)).run=encR s d (pS q7 m d l r))
  (n:Nat) (hn:n<=N+1) (d:Nat) (l:Bool) (r:zf) (hd:d<=31) (h:r <:+ s) (ya:pF q7 n d l r≠.no):(xi ST (qz s r d l)).run=encR s d (pF q7 n d l r):=by
 unfold xi
 obtain⟨y,hy⟩:∃ y,encR s d (pF q7 n d l r)=some y:=by
  cases q:pF q7 n d l r with
  | no=>exact absurd q ya
  | er=>exact⟨_,rfl⟩
  | ok=>exact⟨_,rfl⟩
 rw[hy]
 refine T.I4 (λn x y=>n<=N+1/\∃ d l r,d<=31/\r <:+ s/\x=qz s r d l/\pF q7 n d l r≠.no/\encR s d (pF q7 n d l r)=some y) (λx y => ?_) (λn x y hx g hg => ?_) (n:=n) ⟨hn,d,l,r,hd,h,rfl,ya,hy⟩
 ·rintro⟨_,d,l,r,_,_,_,h,_⟩
  exact h (by unfold pF; rfl)
 ·obtain⟨hn,d,l,r,hd,h,rfl,ya,hy⟩:=hx
  rw[<- hy]
  unfold pF at ya ⊢
  have hgF:∀ d l r,d<=31->r <:+ s->pF q7 n d l r≠.no->(g (qz s r d l)).run=encR s d (pF q7 n d l r):=by
   intro d l r hd h ya
   obtain⟨y,hy⟩:∃ y,encR s d (pF q7 n d l r)=some y:=by
    cases q:pF q7 n d l r with
    | no=>exact absurd q ya
    | er=>exact⟨_,rfl⟩
    | ok=>exact⟨_,rfl⟩
   rw[hy]
   exact hg _ _ ⟨by omega,d,l,r,hd,h,rfl,ya,hy⟩
  exact HE s hs (λy0=>g y0) ST (pF q7 n) (pS q7 n) hgF (hS n (by omega)) ((XV q7 s n).2.2) d l r hd h ya
theorem KG(ST:KT)(m:zf)(k:vE)(p:zc):xx ST () m k p=To (xi ST) m k p:=rfl
theorem Uy(ST:KT)(m:zf)(k:vE)(p:zc):xp ST () m k p=To (qW ST) m k p:=rfl
theorem YX{t:T ((AM.Expr×zc)⊕(vE×zc))}{o:Option ((AM.Expr×zc)⊕(vE×zc))}(h:t.run=o)(ho:o≠none):(T.bind t<|Sum.elim (λ(r,p1)=>.ret (.inl (r,p1))) (λ(pv,p2)=>.ret (.inr (pv,p2))):T ((AM.Expr×zc)⊕(vE×zc))).run=o:=by
 cases o with
 | none=>exact absurd rfl ho
 | some x=>rw[z6 h]; cases x<;>rfl
theorem Be{s:zf}{d:Nat}{R:PR}(h:R≠.no):encR s d R≠none:=by
 cases R with
 | no=>exact absurd rfl h
 | er=>intro h; cases h
 | ok=>intro h; cases h
theorem Gd(s:zf)(hs:s.length<=1000000)(ST:KT)(N:Nat)(hS:∀ m,m<=N->∀ d l r,d<=31->r <:+ s->pS q7 m d l r≠.no->(ST (qz s r d l)).run=encR s d (pS q7 m d l r))
  (n:Nat) (hn:n<=N+1) (d:Nat) (l:Bool) (r:zf) (hd:d<=31) (h:r <:+ s) (ya:pP q7 n d l r≠.no):(qW ST (qz s r d l)).run=encR s d (pP q7 n d l r):=by
 cases n with
 | zero=>exact absurd (by unfold pP; rfl) ya
 | succ n =>
  unfold pP at ya ⊢
  unfold qW
  refine YX ?_ (Be ya)
  rw[KG]
  exact GV s hs d (xi ST) (pF q7 n d) (λl r h ya=>D3 s hs ST N hS n (by omega) d l r hd h ya) ((XV q7 s n).1 d) 42 47 (by decide) (by decide) 5 6 n l r h ya
theorem z0Q(s:zf)(hs:s.length<=1000000)(n:Nat)(d:Nat)(l:Bool)(r:zf)(hd:d<=31)(h:r <:+ s)(ya:pS q7 n d l r≠.no):(vN (qz s r d l)).run=encR s d (pS q7 n d l r):=by
 have bT:∀ (n d:Nat) (l:Bool) (r:zf),pS q7 n d l r≠.no->∃ y,encR s d (pS q7 n d l r)=some y:=by
  intro n d l r ya
  cases q:pS q7 n d l r with
  | no=>exact absurd q ya
  | er=>exact⟨_,rfl⟩
  | ok=>exact⟨_,rfl⟩
 unfold vN
 obtain⟨y,hy⟩:=bT n d l r ya
 rw[hy]
 refine T.I4 (λn x y=>∃ m,m<=n/\∃ d l r,d<=31/\r <:+ s/\x=qz s r d l/\pS q7 m d l r≠.no/\encR s d (pS q7 m d l r)=some y) (λx y => ?_) (λn x y hx g hg => ?_) (n:=n) ⟨n,Nat.le_refl _,d,l,r,hd,h,rfl,ya,hy⟩
 ·rintro⟨m,hm,d,l,r,_,_,_,h,_⟩
  have:m=0:=by omega
  subst this
  exact h (by unfold pS; rfl)
 ·obtain⟨m,hm,d,l,r,hd,h,rfl,ya,hy⟩:=hx
  rw[<- hy]
  cases m with
  | zero=>exact absurd (by unfold pS; rfl) ya
  | succ m =>
   have hg2:∀ k,k<=m->∀ d l r,d<=31->r <:+ s->pS q7 k d l r≠.no->(g (qz s r d l)).run=encR s d (pS q7 k d l r):=by
    intro k hk d l r hd h ya
    obtain⟨y,hy⟩:=bT k d l r ya
    rw[hy]
    exact hg _ _ ⟨k,by omega,d,l,r,hd,h,rfl,ya,hy⟩
   unfold pS at ya ⊢
   unfold u7
   refine YX ?_ (Be ya)
   rw[Uy]
   exact GV s hs d (qW λy0=>g y0) (pP q7 m d) (λl r h ya=>Gd s hs (λy0=>g y0) m hg2 m (by omega) d l r hd h ya) ((XV q7 s m).2.1 d) 43 45 (by decide) (by decide) 3 4 m l r h ya
def p8(s:zf):PR->Expr×Int×Int×Bool
 | .no=>(zE,0,0,false)
 | .er k b _ _ l=>(zE,((vq s b:Nat):Int),k,l)
 | .ok e [] l=>(e,0,0,l)
 | .ok _ (c::r) l=>(zE,((vq s (c::r):Nat):Int),2,l)
def iX(z:Rat)(s:zf):PR:=pS z (3*s.length+3) 0 false s
theorem EV{z:Rat}(hz:ye z)(s:zf):iX z s≠.no:=(Rs hz _).2.2 0 false s (Nat.le_refl _)
theorem MV(z:Rat)(s:zf):(iX z s).Jo s:=(XV z s _).2.2 0 false s (List.suffix_refl s)
theorem JV{z:Rat}(hz:ye z)(s:zf):(iX z s).eU s.length:=(KE hz _).2.2 0 false s
theorem Dj(s:zf)(hs:s.length<=1000000):∃ p,(uX (s,((0:Int),((0:Int),(false,()))))).run=some ((p8 s (iX q7 s)).1,((p8 s (iX q7 s)).2.1,((p8 s (iX q7 s)).2.2.1,p)))/\p.2.2.2.1=(p8 s (iX q7 s)).2.2.2:=by
 have ya:=EV jL s
 have hsf:=MV q7 s
 have hr:=z0Q s hs (3*s.length+3) 0 false s (by omega) (List.suffix_refl s) ya
 have e0:qz s s 0 false=(s,((0:Int),((0:Int),(false,())))):=by unfold qz; rw[M0]; rfl
 rw[e0]at hr
 have hr:(vN (s,((0:Int),((0:Int),(false,()))))).run=encR s 0 (iX q7 s):=hr
 unfold uX
 cases q:iX q7 s with
 | no=>exact absurd q ya
 | er k b r d l =>
  rw[q]at hr
  refine⟨qz s r d l,?_,rfl⟩
  rw[z6 hr,Sum.elim_inr]
  rfl
 | ok e r l =>
  rw[q]at hr hsf
  cases r with
  | nil =>
   refine⟨qz s [] 0 l,?_,rfl⟩
   rw[z6 hr,Sum.elim_inl]
   dsimp only
   rw[vA,wE,V6,zg]
   rfl
  | cons c r =>
   refine⟨qz s (c::r) 0 l,?_,rfl⟩
   rw[z6 hr,Sum.elim_inl]
   dsimp only
   rw[vA,wE,Z1 hsf,zi]
   rfl
def CS(s:zf)(R:PR):Expr×Int×Int :=
 if(p8 s R).2.2.1≠0 then(zE,((p8 s R).2.1,(p8 s R).2.2.1))
 else if(p8 s R).2.2.2=true\/Ce (p8 s R).1=false then(zE,((0:Int),(3:Int)))
 else((p8 s R).1,((0:Int),(0:Int)))
def qB(s:zf):Expr×Int×Int:=CS s (iX q7 s)
theorem Xk:y9 zE:=ow 0 q7 [] jL (by simp)
theorem UR{s:zf}{R:PR}{N:Nat}(h:R.eU N)(h1:1<=N):y9 (p8 s R).1/\wA (p8 s R).1<=N:=by
 have hz:y9 zE/\wA zE<=N:=⟨Xk,h1⟩
 cases R with
 | no=>exact hz
 | er=>exact hz
 | ok e r l =>
  cases r with
  | nil=>exact⟨h.1,by have:=h.2; show wA e<=N; omega⟩
  | cons=>exact hz
theorem JQ(s:zf)(hs:s.length<=900000):(jt s).run=some (qB s):=by
 obtain⟨p,h1,h2⟩:=Dj s (by omega)
 have hg:=UR (s:=s) (R:=iX q7 s) (N:=s.length+1) (by
  have:=JV jL s
  cases q:iX q7 s with
  | no=>trivial
  | er=>trivial
  | ok e r l=>rw[q]at this; exact⟨this.1,by have:=this.2; omega⟩) (by omega)
 unfold qB CS
 generalize p8 s (iX q7 s)=w at h1 h2 hg ⊢
 obtain⟨e,at_,x,l⟩:=w
 dsimp only at h1 h2 hg ⊢
 unfold jt
 rw[z6 h1]
 dsimp only
 by_cases c:x≠0
 ·rw[za (by simpa using c),z7,if_pos c]
 ·rw[z8 (by simpa using c),if_neg c,h2]
  have hI:=Iq e hg.1.1 (by omega)
  rw[z6 (a:=(decide (l=true\/Ce e=false),(zE,(p,e))))]
  ·dsimp only
   by_cases c2:l=true\/Ce e=false
   ·rw[za (decide_eq_true c2),z7,if_pos c2]
   ·rw[z8 (decide_eq_false c2),z7,if_neg c2]
  ·cases l with
   | true=>rw[zi,z7]; simp
   | false =>
    rw[zg,z6 hI,z7]
    cases Ce e<;>simp
inductive QR where
 | no
 | er (k:Int) (bad:zf) (x:Expr) (r:zf) (d:Nat) (l:Bool)
 | ok (e:Expr) (r:zf) (l:Bool)
def QR.Jo(s:zf)(d:Nat):QR->Prop
 | .no=>True
 | .er k b _ r d' _=>k≠0/\b <:+ s/\r <:+ s/\d<=d'/\d'<=1000
 | .ok _ r _=>r <:+ s
theorem z1H:zt 2=[2]:=by rw[jJ (by omega),show 2 / 4294967296=0 from rfl,ql]; rfl
theorem OJ:oU [50]=(false,[2],[1],()):=by
 have e:Ux [50]=some (2,1):=by decide +kernel
 unfold oU
 rw[e]
 show uE _ 2 1=_
 unfold uE
 rw[if_neg (by decide),show 2 / Nat.gcd 2 1=2 from rfl,show 1 / Nat.gcd 2 1=1 from rfl,z1H,z2g]
 rfl
def fh(s:zf):Expr:=.mk 2 q7 s []
theorem Ns:norm (false,[2],[1],())=(false,[2],[1],()):=by
 rw[<- OJ]
 have e:Ux [50]=some (2,1):=by decide +kernel
 have:oU [50]=uE (List.isPrefixOf [45] [50]) 2 1:=by
  unfold oU
  rw[e]
  rfl
 rw[this]
 exact LD _ _ _
theorem Sx:jf (oU [50])=true:=by
 rw[OJ]
 unfold jf eV jo trimB
 rw[Ns]
 show(((zt 2==[2])&&((zt 1==[1])&&_))&&_)=true
 rw[z1H,z2g]
 rfl
theorem Hc(s:zf):y9 (qB s).1/\wA (qB s).1<=s.length+1:=by
 have hg:=UR (s:=s) (R:=iX q7 s) (N:=s.length+1) (by
  have:=JV jL s
  cases q:iX q7 s with
  | no=>trivial
  | er=>trivial
  | ok e r l=>rw[q]at this; exact⟨this.1,by have:=this.2; omega⟩) (by omega)
 have hz:y9 zE/\wA zE<=s.length+1:=⟨Xk,by show(1:Nat)+0<=s.length+1; omega⟩
 unfold qB CS
 split
 ·exact hz
 ·split
  ·exact hz
  ·exact hg
theorem zp{α:Type}(n:Nat)(t:T α):(T.zA (vX n 0 n n) t).run=t.run:=zH t rfl rfl rfl
theorem IN(s:zf)(h:s.length<=1000000000):(dR s).run=some (gL 32 [] s):=by
 have e:(strings_FieldsFunc s (λz0=>yN z0)).run=some (gL 32 [] s):=by
  unfold strings_FieldsFunc
  rw[zb (by omega),z7]
 unfold dR
 rw[z6 e,z7]
def yS:zf->Option (zf×Int×zf)
 | []=>none
 | b::r=>if b=61 then some ([],0,r)else if b=60 then(if[61].isPrefixOf r=true then some ([],2,r.drop 1)else some ([],1,r))else
   match yS r with
   | some (l,c,q)=>some (b::l,c,q)
   | none=>none
theorem VD:∀ {s:zf},(∀ b∈s,b≠60/\b≠61)->yS s=none
 | [],_=>rfl
 | b::r,h=>by
  have hb:=h b List.mem_cons_self
  unfold yS
  rw[if_neg hb.2,if_neg hb.1,VD λx hx=>h x (List.mem_cons_of_mem _ hx)]
theorem Jw:∀ {a:zf} (t:zf),(∀ b∈a,b≠60/\b≠61)->yS (a++t)=(match yS t with | some (l,c,q)=>some (a++l,c,q) | none=>none)
 | [],t,_=>by
  show yS t=_
  cases yS t<;>rfl
 | b::a,t,h=>by
  have hb:=h b List.mem_cons_self
  show(if b=61 then _ else if b=60 then _ else match yS (a++t)with | some (l,c,q)=>some (b::l,c,q) | none=>none)=_
  rw[if_neg hb.2,if_neg hb.1,Jw t λx hx=>h x (List.mem_cons_of_mem _ hx)]
  cases yS t<;>rfl
theorem Wc:∀ s:zf,(yZ s [60,61] = -1/\∀ b∈s,b≠60/\b≠61)\/∃ (a:zf) (c:UInt8) (r:zf),s=a++c::r/\(c=60\/c=61)/\(∀ b∈a,b≠60/\b≠61)/\yZ s [60,61]=(a.length:Int)
 | []=>.inl ⟨rfl,λb h=>by cases h⟩
 | b::r=>by
  by_cases hb:b=60\/b=61
  ·refine .inr ⟨[],b,r,rfl,hb,λx h=>absurd h List.not_mem_nil,?_⟩
   unfold yZ
   rw[if_pos (by rcases hb with rfl | rfl<;>rfl)]
   rfl
  ·have hn:b≠60/\b≠61:=⟨λh=>hb (.inl h),λh=>hb (.inr h)⟩
   have hc:([60,61]:zf).contains b=false:=by
    rw[List.contains_eq_mem,decide_eq_false_iff_not]
    simp[hn.1,hn.2]
   have e:yZ (b::r) [60,61]=if yZ r [60,61] == -1 then -1 else yZ r [60,61]+1:=by
    show(if([60,61]:zf).contains b=true then _ else _)=_
    rw[hc,if_neg (by simp)]
   rcases Wc r with⟨h1,h2⟩ | ⟨a,c,q,rfl,h2,h3,h4⟩
   ·refine .inl ⟨by rw[e,h1]; rfl,λx hx => ?_⟩
    rcases List.mem_cons.1 hx with rfl | hx
    ·exact hn
    ·exact h2 x hx
   ·refine .inr ⟨b::a,c,q,rfl,h2,λx hx => ?_,?_⟩
    ·rcases List.mem_cons.1 hx with rfl | hx
     ·exact hn
     ·exact h3 x hx
    ·rw[e,h4,if_neg (by rw[beq_iff_eq]; omega),List.length_cons]; omega
theorem Tw(a:zf)(c:UInt8)(r:zf):wX ((a.length:Nat):Int) ((a.length+1:Nat):Int) (a++c::r)=[c]:=by
 rw[jx]
 rw[show(a++c::r).take (a.length+1)=a++[c] by rw[List.take_append,List.take_of_length_le (by omega)]; simp]
 simp
theorem Oj(a t:zf):wX (0:Int) ((a.length:Nat):Int) (a++t)=a:=by
 have:=jx (a++t) 0 a.length
 rw[List.drop_zero,List.take_left']at this
 ·exact this
 ·rfl
theorem IJ(a:zf)(c:UInt8)(r:zf):wX ((a.length+1:Nat):Int) (((a++c::r).length:Nat):Int) (a++c::r)=r:=by
 rw[jx,List.take_length,show a++c::r=(a++[c])++r by simp,List.drop_left' (by simp)]
theorem Bu(s p:zf)(h:s.length<=1000000000)(hp:p.length<=1000000):(strings_HasPrefix s p).run=some (List.isPrefixOf p s):=by
 have e:(xr s p).run=some (List.isPrefixOf p s):=by
  unfold xr
  rw[zb (λhd=>de.2 ⟨by omega,by omega,by have:=of_decide_eq_true hd; omega⟩),z7]
  have hc:wX (0:Int) ((p.length:Nat):Int) s=s.take p.length:=by
   have:=jx s 0 p.length
   rwa [List.drop_zero]at this
  rw[hc]
  congr 1
  rw[Bool.eq_iff_iff,Bool.and_eq_true,decide_eq_true_eq,vD,decide_eq_true_eq,List.isPrefixOf_iff_prefix,List.prefix_iff_eq_take]
  constructor
  ·rintro⟨-,e⟩; exact e.symm
  ·intro e
   exact⟨by have:=congrArg List.length e; rw[List.length_take]at this; omega,e.symm⟩
 unfold strings_HasPrefix
 rw[z6 e,z7]
def kc(dC s:zf):Expr×Expr×zf×Int:=match yS s with
 | none=>(zE,(zE,(([]:zf),(2:Int))))
 | some (l,c,r)=>if(qB l).2.2≠0 then((qB l).1,(zE,(([]:zf),(qB l).2.2)))
  else((qB l).1,((qB r).1,(gJ c,(if(qB r).2.2=0/\¬ (0<=cn dC (gJ c))then 2 else(qB r).2.2))))
theorem tY(s dC:zf)(hs:s.length<=80000)(hg:dC.length<=1000):(vr s dC).run=some (kc dC s):=by
 have hI:(strings_IndexAny s [60,61]).run=some (yZ s [60,61]):=by
  unfold strings_IndexAny
  rw[zb ⟨by omega,by decide,by decide,by decide⟩,z7]
 unfold vr
 rw[z6 hI]
 rcases Wc s with⟨h1,h2⟩ | ⟨a,c,r,rfl,hc,ha,hi⟩
 ·rw[h1,za (by rfl),z7]
  unfold kc
  rw[VD h2]
 ·have hlen:(a++c::r).length=a.length+(r.length+1):=by rw[List.length_append,List.length_cons]
  have hw:zF (((a.length:Nat):Int)+1)=((a.length+1:Nat):Int):=by rw[zu (by omega) (by omega)]; omega
  rw[hi,z8 (decide_eq_false (by omega)),hw,zb (de.2 ⟨by omega,by omega,by omega⟩),zb (de.2 ⟨by omega,by omega,by omega⟩),zb (de.2 ⟨by omega,by omega,by omega⟩),Tw,IJ,Oj]
  have fin:∀ (cm:Int) (q:zf),yS (a++c::r)=some (a,cm,q)->q.length<=80000->(cm=0\/cm=1\/cm=2)->(T.bind (jt a) λ(r1,r2,e) =>
   .ite (e != (0:Int))
    (.ret (r1,(zE,(([]:zf),e))))
    (T.bind (T.bind (jt q) λ(r3,r4,e1) =>
       T.bind (.ite (e1==(0:Int))
          (T.bind (strings_Contains dC (gJ cm)) λr5 =>
           .ret ((!r5),(r1,r3)))
          (.ret (false,(r1,r3))):T ((Bool×AM.Expr×AM.Expr))) λ(x1,v4,v5) =>
       .ite x1
        (.ret ((2:Int),(v4,v5)))
        (.ret (e1,(v4,v5))):T ((Int×AM.Expr×AM.Expr))) λ(e2,v6,v7) =>
     .ret (v6,(v7,(gJ cm,e2)))):T (AM.Expr×AM.Expr×zf×Int)).run=some (kc dC (a++c::r)):=by
   intro cm q he hq hcm
   unfold kc
   rw[he,z6 (JQ a (by omega))]
   dsimp only
   have hQ:=JQ q (by omega)
   generalize qB a=A
   generalize qB q=B at hQ ⊢
   obtain⟨A1,A2,A3⟩:=A
   obtain⟨B1,B2,B3⟩:=B
   dsimp only
   by_cases e:A3≠0
   ·rw[if_pos e,za (by simpa using e),z7]
   ·rw[if_neg e,z8 (by simpa using e)]
    have hC:(strings_Contains dC (gJ cm)).run=some (decide ((0:Int)<=cn dC (gJ cm))):=by
     unfold strings_Contains
     rw[zb (by omega),z7]
    have inner:(T.bind (jt q) λ(r3,r4,e1) =>
       T.bind (.ite (e1==(0:Int))
          (T.bind (strings_Contains dC (gJ cm)) λr5 =>
           .ret ((!r5),(A1,r3)))
          (.ret (false,(A1,r3))):T ((Bool×AM.Expr×AM.Expr))) λ(x1,v4,v5) =>
       .ite x1
        (.ret ((2:Int),(v4,v5)))
        (.ret (e1,(v4,v5))):T ((Int×AM.Expr×AM.Expr))).run=some ((if B3=0/\¬ (0<=cn dC (gJ cm))then 2 else B3),(A1,B1)):=by
     rw[z6 hQ]
     dsimp only
     by_cases e2:B3=0
     ·subst e2
      have hb:(.ite (((0:Int))==(0:Int)) (T.bind (strings_Contains dC (gJ cm)) λr5=>.ret ((!r5),(A1,B1))) (.ret (false,(A1,B1))):T ((Bool×AM.Expr×AM.Expr))).run=some ((!decide ((0:Int)<=cn dC (gJ cm))),(A1,B1)):=by
       rw[za (by rfl),z6 hC,z7]
      rw[z6 hb]
      dsimp only
      by_cases k:(0:Int)<=cn dC (gJ cm)
      ·rw[if_neg (λh=>h.2 k),z8 (by rw[decide_eq_true k]; rfl),z7]
      ·rw[if_pos ⟨rfl,k⟩,za (by rw[decide_eq_false k]; rfl),z7]
     ·have hb:(.ite (B3==(0:Int)) (T.bind (strings_Contains dC (gJ cm)) λr5=>.ret ((!r5),(A1,B1))) (.ret (false,(A1,B1))):T ((Bool×AM.Expr×AM.Expr))).run=some (false,(A1,B1)):=by
       rw[z8 (by simpa using e2),z7]
      rw[z6 hb]
      dsimp only
      rw[if_neg (λh=>e2 h.1),zg,z7]
    rw[z6 inner]
    dsimp only
    rw[z7]
  have Un:=Jw (c::r) ha
  rcases hc with rfl | rfl
  ·have hp:=Bu r [61] (by omega) (by decide)
   have hq:(.ite (zr ([60]:zf) ([60]:zf)) (T.bind (strings_HasPrefix r ([61]:zf)) λr=>.ret (r,(zE,zE))) (.ret (false,(zE,zE))):T (Bool×AM.Expr×AM.Expr)).run=some (List.isPrefixOf [61] r,(zE,zE)):=by
    rw[za (BQ _),z6 hp,z7]
   have ec:yS (60::r)=(if[61].isPrefixOf r=true then some ([],2,r.drop 1)else some ([],1,r)):=by
    show(if(60:UInt8)=61 then _ else if(60:UInt8)=60 then _ else _)=_
    rw[if_neg (by decide),if_pos rfl]
   rw[ec]at Un
   by_cases k:[61].isPrefixOf r=true
   ·rw[if_pos k]at Un
    have hr:r.length >= 1:=by
     cases r with
     | nil=>cases k
     | cons x y=>simp
    have Sp:(T.bind (.ite (zr ([60]:zf) ([60]:zf)) (T.bind (strings_HasPrefix r ([61]:zf)) λr=>.ret (r,(zE,zE))) (.ret (false,(zE,zE))):T (Bool×AM.Expr×AM.Expr)) λ(x,v,v1) =>
     .ite x
      (.zA (gj (1:Int) ((r.length:Nat):Int) (List.length r)) <|
       .ret (([60,61]:zf),((wX (1:Int) ((r.length:Nat):Int) r),(v,v1))))
      (.ret (([60]:zf),(r,(v,v1)))):T ((zf×zf×AM.Expr×AM.Expr))).run=some (([60,61]:zf),(r.drop 1,(zE,zE))):=by
     rw[z6 hq]
     dsimp only
     rw[za k,zb (de.2 ⟨by omega,by omega,by omega⟩),z7]
     have:=jx r 1 r.length
     rw[List.take_length]at this
     rw[show wX (1:Int) ((r.length:Nat):Int) r=r.drop 1 from this]
    refine(z6 Sp _).trans ?_
    exact fin 2 (r.drop 1) (by rw[Un]; simp) (by rw[List.length_drop]; omega) (.inr (.inr rfl))
   ·rw[if_neg k]at Un
    have Sp:(T.bind (.ite (zr ([60]:zf) ([60]:zf)) (T.bind (strings_HasPrefix r ([61]:zf)) λr=>.ret (r,(zE,zE))) (.ret (false,(zE,zE))):T (Bool×AM.Expr×AM.Expr)) λ(x,v,v1) =>
     .ite x
      (.zA (gj (1:Int) ((r.length:Nat):Int) (List.length r)) <|
       .ret (([60,61]:zf),((wX (1:Int) ((r.length:Nat):Int) r),(v,v1))))
      (.ret (([60]:zf),(r,(v,v1)))):T ((zf×zf×AM.Expr×AM.Expr))).run=some (([60]:zf),(r,(zE,zE))):=by
     rw[z6 hq]
     dsimp only
     rw[z8 (by cases hh:List.isPrefixOf [61] r with | false=>rfl | true=>exact absurd hh k),z7]
    refine(z6 Sp _).trans ?_
    exact fin 1 r (by rw[Un]; simp) (by omega) (.inr (.inl rfl))
  ·have ec:yS (61::r)=some ([],0,r):=by
    show(if(61:UInt8)=61 then _ else _)=_
    rw[if_pos rfl]
   rw[ec]at Un
   have Sp:(T.bind (.ite (zr ([61]:zf) ([60]:zf)) (T.bind (strings_HasPrefix r ([61]:zf)) λr=>.ret (r,(zE,zE))) (.ret (false,(zE,zE))):T (Bool×AM.Expr×AM.Expr)) λ(x,v,v1) =>
     .ite x
      (.zA (gj (1:Int) ((r.length:Nat):Int) (List.length r)) <|
       .ret (([60,61]:zf),((wX (1:Int) ((r.length:Nat):Int) r),(v,v1))))
      (.ret (([61]:zf),(r,(v,v1)))):T ((zf×zf×AM.Expr×AM.Expr))).run=some (([61]:zf),(r,(zE,zE))):=by
    have hq:(.ite (zr ([61]:zf) ([60]:zf)) (T.bind (strings_HasPrefix r ([61]:zf)) λr=>.ret (r,(zE,zE))) (.ret (false,(zE,zE))):T (Bool×AM.Expr×AM.Expr)).run=some (false,(zE,zE)):=by
     rw[z8 (by rfl),z7]
    rw[z6 hq]
    dsimp only
    rw[zg,z7]
   refine(z6 Sp _).trans ?_
   exact fin 0 r (by rw[Un]; simp) (by omega) (.inl rfl)
theorem NC(b c:UInt8):(((b.toNat:Nat):Int)==((c.toNat:Nat):Int))=decide (b=c):=by
 rw[Bool.eq_iff_iff,beq_iff_eq,decide_eq_true_eq]
 constructor
 ·intro h; exact UInt8.toNat_inj.1 (by omega)
 ·rintro rfl; rfl
def YF(w:List zf)(n:Nat):zf×Bool:=if w.length=n then([],true)
 else if w.length=n+2/\zr (nth w (n:Int) (zj .str)) [119,104,101,110]=true/\zT (nth w ((n+1:Nat):Int) (zj .str))=true then(nth w ((n+1:Nat):Int) (zj .str),true)else([],false)
theorem Qz(w:List zf)(n:Nat)(hn:n<=1000):(jy w (n:Int)).run=some (YF w n):=by
 have w2:zF ((n:Int)+2)=((n+2:Nat):Int):=by rw[zu (by omega) (by omega)]; omega
 have w1:zF ((n:Int)+1)=((n+1:Nat):Int):=by rw[zu (by omega) (by omega)]; omega
 unfold jy YF
 rw[w2,w1]
 by_cases c:w.length=n
 ·rw[if_pos c,za (by rw[beq_iff_eq]; omega),z7]
 ·rw[if_neg c,z8 (by rw[beq_eq_false_iff_ne]; omega)]
  by_cases c2:w.length=n+2
  ·have hk:(xV w ((n+2:Nat):Int) (n:Int) [119,104,101,110]).run=some (zr (nth w (n:Int) (zj .str)) [119,104,101,110]):=by
    unfold xV
    rw[zb (λ_=>qp (by omega)),z7]
    rw[show(((w.length:Nat):Int)==((n+2:Nat):Int))=true by rw[beq_iff_eq]; omega,Bool.true_and]
   have inner:(T.bind (xV w ((n+2:Nat):Int) (n:Int) [119,104,101,110]) λr =>
     .ite r
      (.zA (qu ((n+1:Nat):Int) (List.length w)) <|
       T.bind (xg (nth w ((n+1:Nat):Int) (zj .str))) λr1 =>
       .ret r1)
      (.ret false):T (Bool)).run=some (zr (nth w (n:Int) (zj .str)) [119,104,101,110]&&zT (nth w ((n+1:Nat):Int) (zj .str))):=by
    rw[z6 hk]
    cases zr (nth w (n:Int) (zj .str)) [119,104,101,110]with
    | false=>rw[zg,z7]; rfl
    | true=>rw[zi,zb (qp (by omega)),z6 (xB _),z7]; rfl
   rw[z6 inner]
   cases q:(zr (nth w (n:Int) (zj .str)) [119,104,101,110]&&zT (nth w ((n+1:Nat):Int) (zj .str)))with
   | false=>rw[if_neg (λh=>by rw[h.2.1,h.2.2]at q; cases q),zg,z7]
   | true=>rw[Bool.and_eq_true]at q; rw[if_pos ⟨c2,q.1,q.2⟩,zi,zb (qp (by omega)),z7]
  ·have hk:(xV w ((n+2:Nat):Int) (n:Int) [119,104,101,110]).run=some false:=by
    have hb:(((w.length:Nat):Int)==((n+2:Nat):Int))=false:=by rw[beq_eq_false_iff_ne]; omega
    unfold xV
    rw[zb (λh=>by rw[hb]at h; cases h),z7,hb,Bool.false_and]
   have inner:(T.bind (xV w ((n+2:Nat):Int) (n:Int) [119,104,101,110]) λr =>
     .ite r
      (.zA (qu ((n+1:Nat):Int) (List.length w)) <|
       T.bind (xg (nth w ((n+1:Nat):Int) (zj .str))) λr1 =>
       .ret r1)
      (.ret false):T (Bool)).run=some false:=by
    rw[z6 hk,zg,z7]
   rw[z6 inner,if_neg (λh=>c2 h.1),zg,z7]
theorem bind_mono{R R':PR}{f f':Expr->zf->Bool->PR}(h:R≠.no->R'=R)(hf:∀ e r l,f e r l≠.no->f' e r l=f e r l)(hn:R.bind f≠.no):R'.bind f'=R.bind f:=by
 cases R with
 | no=>exact absurd rfl hn
 | er k b r d l=>rw[h (by simp)]; rfl
 | ok e r l=>rw[h (by simp)]; exact hf e r l hn
theorem ct{K K':Bool->zf->PR}(hK:∀ l q,K l q≠.no->K' l q=K l q)(m1 m2:UInt8)(k1 k2:Int):∀ (n n':Nat) (e:Expr) (r:zf) (l:Bool),n<=n'->yc K m1 m2 k1 k2 n e r l≠.no->yc K' m1 m2 k1 k2 n' e r l=yc K m1 m2 k1 k2 n e r l
 | 0,_,_,_,_,_,h=>absurd rfl h
 | n+1,0,_,_,_,h,_=>by omega
 | n+1,n'+1,e,r,l,h,hn=>by
  unfold yc at hn ⊢
  cases q:jc [m1,m2] r with
  | none=>rfl
  | some x =>
   obtain⟨c,q'⟩:=x
   rw[q]at hn
   exact bind_mono (hK l q') (λe2 q2 l2 h2=>ct hK m1 m2 k1 k2 n n' _ q2 l2 (by omega) h2) hn
theorem UU{K K':Bool->zf->PR}(hK:∀ l q,K l q≠.no->K' l q=K l q)(m1 m2:UInt8)(k1 k2:Int)(n n':Nat)(h:n<=n')(l:Bool)(r:zf)(hn:rowP K m1 m2 k1 k2 n l r≠.no):rowP K' m1 m2 k1 k2 n' l r=rowP K m1 m2 k1 k2 n l r :=
 bind_mono (hK l r) (λe q l' h2=>ct hK m1 m2 k1 k2 n n' e q l' h h2) hn
theorem Lu{z:Rat}{F S F' S':Nat->Bool->zf->PR}(hF:∀ d l q,F d l q≠.no->F' d l q=F d l q)(hS:∀ d l q,S d l q≠.no->S' d l q=S d l q)(d:Nat)(l:Bool)(s:zf)(hn:tu z F S d l s≠.no):tu z F' S' d l s=tu z F S d l s:=by
 unfold tu at hn ⊢
 cases e:mg s with
 | nil=>rfl
 | cons c r =>
  rw[e]at hn
  dsimp only at hn ⊢
  by_cases RX:c=45
  ·rw[if_pos RX]at hn ⊢
   rw[if_pos RX]
   by_cases c31:31<=d
   ·rw[if_pos c31,if_pos c31]
   ·rw[if_neg c31]at hn ⊢
    rw[if_neg c31]
    exact bind_mono (hF _ _ _) (λ_ _ _ _=>rfl) hn
  ·rw[if_neg RX]at hn ⊢
   rw[if_neg RX]
   by_cases RL:c=40
   ·rw[if_pos RL]at hn ⊢
    rw[if_pos RL]
    by_cases c31:31<=d
    ·rw[if_pos c31,if_pos c31]
    ·rw[if_neg c31]at hn ⊢
     rw[if_neg c31]
     exact bind_mono (hS _ _ _) (λ_ _ _ _=>rfl) hn
   ·rw[if_neg RL,if_neg RL]
theorem gp(z:Rat):∀ (n n':Nat),n<=n'->(∀ d l r,pF z n d l r≠.no->pF z n' d l r=pF z n d l r)/\(∀ d l r,pP z n d l r≠.no->pP z n' d l r=pP z n d l r)/\(∀ d l r,pS z n d l r≠.no->pS z n' d l r=pS z n d l r)
 | 0,_,_=>⟨λ_ _ _ h=>absurd (by unfold pF; rfl) h,λ_ _ _ h=>absurd (by unfold pP; rfl) h,λ_ _ _ h=>absurd (by unfold pS; rfl) h⟩
 | n+1,0,h=>by omega
 | n+1,n'+1,h=>by
  obtain⟨h1,h2,h3⟩:=gp z n n' (by omega)
  refine⟨λd l r hn => ?_,λd l r hn => ?_,λd l r hn => ?_⟩
  ·unfold pF at hn ⊢; exact Lu h1 h3 d l r hn
  ·unfold pP at hn ⊢; exact UU (h1 d) _ _ _ _ n n' (by omega) l r hn
  ·unfold pS at hn ⊢; exact UU (h2 d) _ _ _ _ n n' (by omega) l r hn
def SF(d:Nat)(l:Bool)(s:zf)(R:PR):Prop:=R≠.no/\∃ n,pF q7 n d l s=R
def SP(d:Nat)(l:Bool)(s:zf)(R:PR):Prop:=R≠.no/\∃ n,pP q7 n d l s=R
def SS(d:Nat)(l:Bool)(s:zf)(R:PR):Prop:=R≠.no/\∃ n,pS q7 n d l s=R
def RP(d:Nat)(e:Expr)(r:zf)(l:Bool)(R:PR):Prop:=R≠.no/\∃ n m,yc (pF q7 n d) 42 47 5 6 m e r l=R
def RS(d:Nat)(e:Expr)(r:zf)(l:Bool)(R:PR):Prop:=R≠.no/\∃ n m,yc (pP q7 n d) 43 45 3 4 m e r l=R
theorem OW{d:Nat}{l:Bool}{s:zf}{e:Expr}{q:zf}{l':Bool}{R:PR}(h1:SF d l s (.ok e q l'))(h2:RP d e q l' R):SP d l s R:=by
 obtain⟨_,n1,e1⟩:=h1
 obtain⟨hR,n2,m,e2⟩:=h2
 refine⟨hR,max (max n1 n2) m+1,?_⟩
 unfold pP rowP
 rw[(gp q7 n1 (max (max n1 n2) m) (by omega)).1 d l s (by rw[e1]; simp),e1]
 show yc _ _ _ _ _ _ e q l'=R
 rw[ct (λl q h=>(gp q7 n2 (max (max n1 n2) m) (by omega)).1 d l q h) 42 47 5 6 m (max (max n1 n2) m) e q l' (by omega) (by rw[e2]; exact hR),e2]
theorem z2k{d:Nat}{l:Bool}{s:zf}{e:Expr}{q:zf}{l':Bool}{R:PR}(h1:SP d l s (.ok e q l'))(h2:RS d e q l' R):SS d l s R:=by
 obtain⟨_,n1,e1⟩:=h1
 obtain⟨hR,n2,m,e2⟩:=h2
 refine⟨hR,max (max n1 n2) m+1,?_⟩
 unfold pS rowP
 rw[(gp q7 n1 (max (max n1 n2) m) (by omega)).2.1 d l s (by rw[e1]; simp),e1]
 show yc _ _ _ _ _ _ e q l'=R
 rw[ct (λl q h=>(gp q7 n2 (max (max n1 n2) m) (by omega)).2.1 d l q h) 43 45 3 4 m (max (max n1 n2) m) e q l' (by omega) (by rw[e2]; exact hR),e2]
theorem Yd{d:Nat}{e:Expr}{r:zf}{l:Bool}(h:jc [42,47] r=none):RP d e r l (.ok e (mg r) l):=⟨by simp,0,1,by unfold yc; rw[h]⟩
theorem Fb{d:Nat}{e:Expr}{r:zf}{l:Bool}(h:jc [43,45] r=none):RS d e r l (.ok e (mg r) l):=⟨by simp,0,1,by unfold yc; rw[h]⟩
theorem z0K{d:Nat}{e:Expr}{r:zf}{l:Bool}{c:UInt8}{q:zf}{e2:Expr}{q2:zf}{l2:Bool}{R:PR}(h:jc [42,47] r=some (c,q))(h1:SF d l q (.ok e2 q2 l2))(h2:RP d (pL (if c=42 then 5 else 6) [e,e2]) q2 l2 R):RP d e r l R:=by
 obtain⟨_,n1,e1⟩:=h1
 obtain⟨hR,n2,m,e3⟩:=h2
 refine⟨hR,max n1 n2,m+1,?_⟩
 unfold yc
 rw[h]
 dsimp only
 rw[(gp q7 n1 (max n1 n2) (by omega)).1 d l q (by rw[e1]; simp),e1]
 show yc _ _ _ _ _ _ _ q2 l2=R
 rw[ct (λl q h=>(gp q7 n2 (max n1 n2) (by omega)).1 d l q h) 42 47 5 6 m m _ q2 l2 (by omega) (by rw[e3]; exact hR),e3]
theorem Tj{d:Nat}{e:Expr}{r:zf}{l:Bool}{c:UInt8}{q:zf}{e2:Expr}{q2:zf}{l2:Bool}{R:PR}(h:jc [43,45] r=some (c,q))(h1:SP d l q (.ok e2 q2 l2))(h2:RS d (pL (if c=43 then 3 else 4) [e,e2]) q2 l2 R):RS d e r l R:=by
 obtain⟨_,n1,e1⟩:=h1
 obtain⟨hR,n2,m,e3⟩:=h2
 refine⟨hR,max n1 n2,m+1,?_⟩
 unfold yc
 rw[h]
 dsimp only
 rw[(gp q7 n1 (max n1 n2) (by omega)).2.1 d l q (by rw[e1]; simp),e1]
 show yc _ _ _ _ _ _ _ q2 l2=R
 rw[ct (λl q h=>(gp q7 n2 (max n1 n2) (by omega)).2.1 d l q h) 43 45 3 4 m m _ q2 l2 (by omega) (by rw[e3]; exact hR),e3]
theorem Ox(m r:zf):jc m (mg r)=jc m r:=by unfold jc; rw[HV]
theorem Pj(K:Bool->zf->PR)(m1 m2:UInt8)(k1 k2:Int)(n:Nat)(e:Expr)(r:zf)(l:Bool):yc K m1 m2 k1 k2 n e (mg r) l=yc K m1 m2 k1 k2 n e r l:=by
 cases n with
 | zero=>rfl
 | succ n=>unfold yc; rw[Ox,HV]
theorem z1R{d:Nat}{e:Expr}{r:zf}{l:Bool}{R:PR}(h:RS d e r l R):RS d e (mg r) l R:=by
 obtain⟨hR,n,m,e2⟩:=h
 exact⟨hR,n,m,by rw[Pj,e2]⟩
theorem z9V{c:UInt8}(h:QI c=true):kg c=false:=by
 unfold QI at h
 rw[Bool.and_eq_true,decide_eq_true_eq,decide_eq_true_eq]at h
 cases q:kg c with
 | false=>rfl
 | true=>have:=oq.1 q; omega
theorem z3E{d:Nat}{l:Bool}{s r:zf}{c:UInt8}(hs:mg s=c::r)(hc:QI c=true):SF d l s (C4 (c::r) l):=by
 refine⟨by unfold C4; simp,1,?_⟩
 have RX:c≠45:=by rintro rfl; revert hc; decide
 have RL:c≠40:=by rintro rfl; revert hc; decide
 unfold pF tu
 rw[hs]
 dsimp only
 rw[if_neg RX,if_neg RL,if_neg (by rw[z9V hc]; simp),if_pos hc]
theorem z3l{s:zf}{R:PR}(h:SS 0 false s R):iX q7 s=R:=by
 obtain⟨hR,n,e⟩:=h
 have h2:=EV jL s
 unfold iX at h2 ⊢
 have a:=(gp q7 (3*s.length+3) (max n (3*s.length+3)) (by omega)).2.2 0 false s h2
 have b:=(gp q7 n (max n (3*s.length+3)) (by omega)).2.2 0 false s (by rw[e]; exact hR)
 rw[<- a,b,e]
def Nz:zf->Bool
 | []=>true
 | c::_ => !vY c && !(c==46)
theorem Rp{q:zf}(h:Nz q=true):∀ c r,q=c::r->vY c=false/\c≠46:=by
 rintro c r rfl
 have h:(!vY c && !(c==46))=true:=h
 rw[Bool.and_eq_true]at h
 exact⟨by simpa using h.1,by simpa using h.2⟩
theorem ZI{n:Rat}(h:jf n=true):eV n=true/\n.1=false/\jo n=false/\(qF (norm n).1 (nv (norm n).2.1) (nv (norm n).2.2.1) 0 61).2=true:=by
 unfold jf at h
 simp only[Bool.and_eq_true,Bool.not_eq_true']at h
 exact⟨h.1,h.2.1,h.2.2.1,h.2.2.2⟩
theorem ot{n:Rat}(hn:ye n)(h:eV n=true):norm n=n:=(YJ n hn.1 hn.2.1).1 h
theorem J9:∀ (n:Nat) (s q:zf),s.length<=n->s.all vY=true->Nz q=true->gi vY n (s++q)=(s,q)
 | 0,[],q,_,_,_=>rfl
 | 0,_::_,_,h,_,_=>by simp at h
 | n+1,[],[],_,_,_=>rfl
 | n+1,[],c::q,_,_,hq=>by
  have:=(Rp hq c q rfl).1
  show(if vY c=true then _ else([],c::q))=_
  rw[if_neg (by rw[this]; simp)]
 | n+1,c::s,q,h,ha,hq=>by
  rw[List.all_cons,Bool.and_eq_true]at ha
  have ih:=J9 n s q (by simpa using h) ha.2 hq
  show(if vY c=true then(c::(gi vY n (s++q)).1,(gi vY n (s++q)).2)else _)=_
  rw[if_pos ha.1,ih]
theorem Ya{s:zf}(h:zT s=true):s.length<=24/\s.all vY=true/\∃ c r,s=c::r/\QI c=true:=by
 have h2:=s6 h
 refine⟨h2.1,h2.2,?_⟩
 cases s with
 | nil=>cases h
 | cons c r =>
  unfold zT at h
  dsimp only at h
  rw[Bool.and_eq_true,Bool.and_eq_true]at h
  exact⟨c,r,rfl,h.2.1⟩
theorem L3{s:zf}(h:zT s=true)(l:Bool){q:zf}(hq:Nz q=true):C4 (s++q) l=.ok (.mk 2 q7 s []) q l:=by
 obtain⟨h1,h2,_⟩:=Ya h
 unfold C4
 rw[J9 24 s q h1 h2 hq]
theorem z4d{c:UInt8}{r:zf}(h:c≠32):mg (c::r)=c::r:=by unfold mg; rw[if_neg h]
theorem z3Z{c:UInt8}(h:QI c=true):c≠32:=by rintro rfl; revert h; decide
theorem z0J{d:Nat}{k:Int}{n:Rat}{s:zf}{l:List Expr}(ho:wK d (.mk k n s l)=true) :
  (k=1/\l=[]/\jf n=true/\s=[])\/(k=2/\l=[]/\zT s=true/\xK n=true)\/(k=7/\(∃ a,l=[a]/\wK (d+1) a=true)/\xK n=true/\s=[])\/((k=3\/k=4\/k=5\/k=6)/\(∃ a b,l=[a,b]/\wK (d+1) a=true/\wK (d+1) b=true)/\xK n=true/\s=[]):=by
 obtain⟨hk,hl⟩:=nj ho
 have ho:(decide (d<32)&&(uF (.mk k n s l)&&uv (d+1) l))=true:=ho
 simp only[Bool.and_eq_true]at ho
 have Xb:=ho.2.1
 unfold uF at Xb
 rw[Bool.and_eq_true]at Xb
 have hb:=Xb.2
 clear Xb
 rw[show Expr.kind (.mk k n s l)=k from rfl,show Expr.num (.mk k n s l)=n from rfl,show Expr.name (.mk k n s l)=s from rfl]at hb
 have Oh:(l.length:Int)=0->l=[]:=λh=>List.eq_nil_of_length_eq_zero (by omega)
 by_cases h1:k=1
 ·rw[if_pos h1,Bool.and_eq_true,vD,decide_eq_true_eq]at hb
  refine .inl ⟨h1,Oh ?_,hb.1,hb.2⟩
  rw[hk]; unfold nP; rw[if_pos (.inl h1)]
 ·rw[if_neg h1]at hb
  by_cases h2:k=2
  ·rw[if_pos h2,Bool.and_eq_true]at hb
   refine .inr (.inl ⟨h2,Oh ?_,hb.2,hb.1⟩)
   rw[hk]; unfold nP; rw[if_pos (.inr h2)]
  ·rw[if_neg h2,Bool.and_eq_true,vD,decide_eq_true_eq]at hb
   rcases Kv hk h1 h2 with⟨h7,a,rfl⟩ | ⟨Ou,a,b,rfl⟩
   ·have hl:(wK (d+1) a&&uv (d+1) [])=true:=hl
    rw[Bool.and_eq_true]at hl
    exact .inr (.inr (.inl ⟨h7,⟨a,rfl,hl.1⟩,hb.1,hb.2⟩))
   ·have hl:(wK (d+1) a&&(wK (d+1) b&&uv (d+1) []))=true:=hl
    rw[Bool.and_eq_true,Bool.and_eq_true]at hl
    exact .inr (.inr (.inr ⟨Ou,⟨a,b,rfl,hl.1,hl.2.1⟩,hb.1,hb.2⟩))
theorem Gm{n:Rat}(h:xK n=true):norm n=norm q7:=by
 unfold xK at h
 simp only[Bool.and_eq_true,List.isEmpty_iff]at h
 have:nv n.2.1=0:=by rw[h.2.1]; rfl
 unfold norm
 have z:∀ b d,uE b 0 d=(false,[],[1],()):=λb d=>by unfold uE; rw[if_pos (.inl rfl)]
 rw[this,z,show nv q7.2.1=0 from rfl,z]
theorem Rk{d:Nat}{k:Int}{n:Rat}{s:zf}{l:List Expr}(h1:d<32)(h2:uF (.mk k n s l)=true)(h3:uv (d+1) l=true):wK d (.mk k n s l)=true:=by
 show(decide (d<32)&&(uF (.mk k n s l)&&uv (d+1) l))=true
 rw[decide_eq_true h1,h2,h3]; rfl
theorem LR{e:Expr}(h:Ce e=true):wK 0 e=true/\wA e<=256:=by
 unfold Ce at h
 rw[Bool.and_eq_true,decide_eq_true_eq]at h
 exact h
theorem M9{s:zf}{e:Expr}{a:Int}(h:qB s=(e,(a,(0:Int)))):Ce e=true:=by
 unfold qB CS at h
 split at h
 ·rename_i c
  injection h with _ h
  injection h with _ h
  exact absurd h c
 ·split at h
  ·injection h with _ h
   injection h with _ h
   exact absurd h (by decide)
  ·rename_i c
   injection h with h _
   rw[<- h]
   cases q:Ce (p8 s (iX q7 s)).1 with
   | true=>rfl
   | false=>exact absurd (.inr q) c
theorem z2X{n:Rat}(hn:ye n)(h:jf n=true):8*n.2.1.length+8*n.2.2.1.length<=256:=by
 obtain⟨h1,h2,h3,h4⟩:=ZI h
 have e:=ot hn h1
 unfold jo at h3
 rw[e,Bool.or_eq_false_iff,decide_eq_false_iff_not,decide_eq_false_iff_not]at h3
 omega
theorem Yv{n:Rat}(hn:ye n)(h:xK n=true):8*n.2.1.length+8*n.2.2.1.length<=256:=by
 have h0:=h
 unfold xK at h
 simp only[Bool.and_eq_true,Bool.or_eq_true,List.isEmpty_iff]at h
 obtain⟨_,h2,h3⟩:=h
 rcases h3 with h3 | h3
 ·rw[h2,h3]; simp
 ·have e:=ot hn h3
  have e2:=Gm h0
  rw[e]at e2
  rw[e2]
  decide +kernel
theorem z8m:∀ (m:Nat) (e:Expr) (d:Nat),wA e<=m->wK d e=true->allOk e->szE e<=283*wA e:=by
 intro m
 induction m with
 | zero=>intro e d hm; have:=K0 e; omega
 | succ m ih =>
  intro e d hm ho ha
  cases e with | mk k n s l =>
  have hn:=ha.1
  rcases z0J ho with⟨rfl,rfl,h1,rfl⟩ | ⟨rfl,rfl,h1,h2⟩ | ⟨rfl,⟨a,rfl,hoa⟩,h1,rfl⟩ | ⟨hk,⟨a,b,rfl,hoa,hob⟩,h1,rfl⟩
  ·have:=z2X hn h1
   simp only[szE,szEs,wA,wR,List.length_nil]; omega
  ·have:=Yv hn h2
   have:=(s6 h1).1
   simp only[szE,szEs,wA,wR]; omega
  ·have e1:wA (.mk 7 n [] [a])=1+(wA a+0):=rfl
   have:=Yv hn h1
   have:=ih a _ (by omega) hoa ha.2.1
   simp only[szE,szEs,List.length_nil]; omega
  ·have e1:wA (.mk k n [] [a,b])=1+(wA a+(wA b+0)):=rfl
   have:=Yv hn h1
   have:=ih a _ (by omega) hoa ha.2.1
   have:=ih b _ (by omega) hob ha.2.2.1
   simp only[szE,szEs,List.length_nil]; omega
theorem P8{e:Expr}(h:Ce e=true)(ha:allOk e):jm e:=by
 obtain⟨h1,h2⟩:=LR h
 have:=z8m _ e 0 (Nat.le_refl _) h1 ha
 exact⟨by omega,h2,ha⟩
theorem WY(s:zf):jm (qB s).1:=by
 have hg:=(Hc s).1.1
 by_cases h:(qB s).2.2=0
 ·refine P8 (M9 (s:=s) (a:=(qB s).2.1) ?_) hg
  rw[<- h]
 ·have e:(qB s).1=zE:=by
   unfold qB CS at h ⊢
   split
   ·rfl
   ·split
    ·rfl
    ·rename_i c1 c2
     rw[if_neg c1,if_neg c2]at h
     exact absurd rfl h
  rw[e]
  exact o5 (by decide) Xk.1
def qX(s:zf):Expr×Expr×Int×Int:=match yS s with
 | none=>(zE,(zE,((0:Int),(2:Int))))
 | some (l,c,r)=>if(qB l).2.2≠0 then(zE,(zE,((0:Int),(qB l).2.2)))else((qB l).1,((qB r).1,(c,(qB r).2.2)))
abbrev Zb:=List Switch×List Param×List xm×List Field×List xe×List Check
def vv:Zb:=([],[],[],[],[],[])
def wd(l:List zf)(k:Nat):zf:=nth l (k:Int) (zj .str)
def Me(l:List zf):Int×Zb:=if l.length=3/\zT (wd l 1)=true/\(zr (wd l 2) [111,110]=true\/zr (wd l 2) [111,102,102]=true)
 then(0,[(wd l 1,(zr (wd l 2) [111,110],()))],[],[],[],[],[])else(2,vv)
def Ky(s:zf):Option Rat:=if 400<s.length then none else match Ux s with | some (n,d)=>some (uE (List.isPrefixOf [45] s) n d) | none=>none
def Bj(l:List zf):Int×Zb:=if l.length=3/\zT (wd l 1)=true then(match Ky (wd l 2)with | some r=>(0,[],[(wd l 1,(r,()))],[],[],[],[]) | none=>(2,vv))else(2,vv)
def Bl(l:List zf):Int×Zb:=if 2<=l.length/\zT (wd l 1)=true/\(YF l 2).2=true then(0,[],[],[(wd l 1,((YF l 2).1,()))],[],[],[])else(2,vv)
def tA(w:List zf):Bool:=match w with | x::_=>zr x [109,117,115,116] | []=>false
def V8(w:List zf):Option Int:=match w with
 | []=>some 0
 | [a,[c]]=>if zr a [115,99,97,108,101]=true/\48<=c.toNat/\c.toNat<=57 then some ((c.toNat:Int)-48)else none
 | _=>none
def gE(l:List zf):List zf:=if tA (l.drop 2)=true then l.drop 3 else l.drop 2
def BA(np:Nat)(l:List zf):Int×Zb:=if 2<=l.length/\zT (wd l 1)=true/\np≠0
 then(match V8 (gE l)with | some k=>(0,[],[],[],[(wd l 1,((np:Int)-1,(tA (l.drop 2),(k,()))))],[],[]) | none=>(2,vv))else(2,vv)
def Cz(s:zf):Int:=PL.sj (λt=>zr s t) 0 [[114,101,113,117,105,114,101,100],[115,116,114,111,110,103],[109,101,100,105,117,109],[119,101,97,107]]
def Mf(np:Nat)(l:List zf)(rest:zf):Int×Zb:=if l.length=2/\zT (wd l 1)=true/\np≠0
 then((qX rest).2.2.2,[],[],[],[],[],[(wd l 1,((np:Int)-1,((qX rest).2.2.1,((qX rest).1,((qX rest).2.1,())))))])else(2,vv)
def HM(l:List zf)(rest:zf):Int×Zb:=if 3<=l.length/\0<=Cz (wd l 1)/\zT (wd l 2)=true/\(YF l 3).2=true
 then(if(qX rest).2.2.2=0/\(qX rest).2.2.1≠0 then(2,vv)else((qX rest).2.2.2,[],[],[],[],[(wd l 2,(Cz (wd l 1),((YF l 3).1,((qX rest).1,((qX rest).2.1,())))))],[]))else(2,vv)
theorem Tl{n:Nat}(h:0<n):qu (0:Int) n:=⟨Int.le_refl _,by omega⟩
theorem dK{n:Nat}(h:1<n):qu (1:Int) n:=⟨by decide,by omega⟩
theorem Ha{n:Nat}(h:2<n):qu (2:Int) n:=⟨by decide,by omega⟩
theorem KK(l:List zf)(xs:List Switch)(gz:List Param)(vx:List xm)(bK:List Field)(bG:List xe)(bH:List Check)(hx:xs.length<=1000000) :
  (ur l () xs gz vx bK bG bH).run=some (decide ((Me l).1=0),((),(xs++(Me l).2.1,(gz,(vx,(bK,(bG,bH))))))):=by
 unfold ur Me
 by_cases c1:l.length=3
 ·refine(z6 (a:=(!(zT (wd l 1)&&(zr (wd l 2) [111,110]||zr (wd l 2) [111,102,102])),((),(xs,(gz,(vx,(bK,(bG,bH)))))))) ?_ _).trans ?_
  ·rw[z8 (by rw[c1]; rfl),zb (dK (by omega)),z6 (xB _)]
   show(T.ite (!zT (wd l 1)) _ _).run=_
   cases zT (wd l 1)with
   | false=>rw[za (by rfl)]; simp only[zp,T.zh,zn,z7]; rfl
   | true =>
    rw[z8 (by rfl),zb (Ha (by omega))]
    show(T.ite (!zr (wd l 2) [111,110]) _ _).run=_
    cases zr (wd l 2) [111,110]with
    | true=>rw[z8 (by rfl)]; simp only[zp,T.zh,zn,z7]; rfl
    | false=>rw[za (by rfl),zb (Ha (by omega))]; simp only[zp,T.zh,zn,z7]; rfl
  ·dsimp only
   by_cases q:zT (wd l 1)=true/\(zr (wd l 2) [111,110]=true\/zr (wd l 2) [111,102,102]=true)
   ·rw[if_pos ⟨c1,q⟩,z8 (by rw[q.1]; rcases q.2 with h | h<;>simp[h]),zb (dK (by omega)),zb (Ha (by omega)),lF _ rfl rfl rfl (by omega)]
    simp only[List.length_append,List.length_singleton,zp,T.zh,zn,z7]
    rfl
   ·rw[if_neg (λh=>q h.2),za]
    ·simp only[zp,T.zh,zn,z7]
     show _=some (false,((),(xs++[],_)))
     rw[List.append_nil]
    ·cases h1:zT (wd l 1)<;>cases h2:zr (wd l 2) [111,110]<;>cases h3:zr (wd l 2) [111,102,102]<;>simp[h1,h2,h3]at q<;>rfl
 ·refine(z6 (a:=(true,((),(xs,(gz,(vx,(bK,(bG,bH)))))))) ?_ _).trans ?_
  ·rw[za (by rw[bne_iff_ne]; omega)]
   simp only[zp,T.zh,zn,z7]
  ·dsimp only
   rw[if_neg (λh=>c1 h.1),zi]
   simp only[zp,T.zh,zn,z7]
   show _=some (false,((),(xs++[],_)))
   rw[List.append_nil]
theorem KW(s:zf)(hs:s.length<=1000000000):∃ r e,(yq s).run=some (r,e)/\(match Ky s with | some q=>r=q/\e=0 | none=>e≠0):=by
 have h:=pO s hs
 unfold Ky
 by_cases c:400<s.length
 ·rw[if_pos c]at h ⊢
  exact⟨_,_,h,by decide⟩
 ·rw[if_neg c]at h ⊢
  cases q:Ux s with
  | none=>rw[q]at h; exact⟨_,_,h,show(2:Int)≠0 by decide⟩
  | some p=>rw[q]at h; exact⟨_,_,h,rfl,rfl⟩
theorem Hl(l:List zf)(xs:List Switch)(gz:List Param)(vx:List xm)(bK:List Field)(bG:List xe)(bH:List Check)(hx:gz.length<=1000000)(hl:∀ s∈l,s.length<=1000000) :
  ∃ Q,(vI l () xs gz vx bK bG bH).run=some (decide ((Bj l).1=0),((),(xs,(gz++Q,(vx,(bK,(bG,bH)))))))/\((Bj l).1=0->Q=(Bj l).2.2.1):=by
 by_cases c1:l.length=3/\zT (wd l 1)=true
 ·obtain⟨r,e,h1,h2⟩:=KW (wd l 2) (by have:=hl _ (hZ (l:=l) (i:=2) (d:=zj .str) (by omega) (by omega)); exact Nat.le_trans this (by omega))
  have h1:(yq (nth l 2 (zj .str))).run=some (r,e):=h1
  refine⟨[(wd l 1,(r,()))],?_,?_⟩
  ·unfold vI
   refine(z6 (a:=(false,((),(xs,(gz,(vx,(bK,(bG,bH)))))))) ?_ _).trans ?_
   ·rw[z8 (by rw[c1.1]; rfl),zb (dK (by omega)),z6 (xB _)]
    simp only[zp,T.zh,zn,z7]
    show some (!zT (wd l 1),_)=_
    rw[c1.2]; rfl
   ·dsimp only
    rw[zg,zb (Ha (by omega)),z6 h1]
    dsimp only
    rw[zb (dK (by omega)),lF _ rfl rfl rfl (by omega)]
    simp only[List.length_append,List.length_singleton,zp,T.zh,zn,z7]
    have:(e==(0:Int))=decide ((Bj l).1=0):=by
     unfold Bj
     rw[if_pos c1]
     cases hd:Ky (wd l 2)with
     | none=>rw[hd]at h2; rw[decide_eq_false (show ¬ (2:Int)=0 by decide)]; simpa using h2
     | some q=>rw[hd]at h2; rw[h2.2]; rfl
    rw[this]
    rfl
  ·intro h0
   unfold Bj at h0 ⊢
   rw[if_pos c1]at h0 ⊢
   cases hd:Ky (wd l 2)with
   | none=>rw[hd]at h0; exact absurd h0 (show ¬ (2:Int)=0 by decide)
   | some q=>rw[hd]at h2; rw[h2.1]
 ·have e2:Bj l=(2,vv):=by unfold Bj; rw[if_neg c1]
  refine⟨[],?_,λh=>by rw[e2]at h; exact absurd h (by decide)⟩
  unfold vI
  rw[e2,List.append_nil]
  refine(z6 (a:=(true,((),(xs,(gz,(vx,(bK,(bG,bH)))))))) ?_ _).trans ?_
  ·by_cases k:l.length=3
   ·have hn:zT (wd l 1)=false:=by
     cases h:zT (wd l 1)with
     | false=>rfl
     | true=>exact absurd ⟨k,h⟩ c1
    rw[z8 (by rw[k]; rfl),zb (dK (by omega)),z6 (xB _)]
    simp only[zp,T.zh,zn,z7]
    show some (!zT (wd l 1),_)=_
    rw[hn]; rfl
   ·rw[za (by rw[bne_iff_ne]; omega)]
    simp only[zp,T.zh,zn,z7]
  ·dsimp only
   rw[zi]
   simp only[zp,T.zh,zn,z7]
   rfl
theorem KI(l:List zf)(xs:List Switch)(gz:List Param)(vx:List xm)(bK:List Field)(bG:List xe)(bH:List Check)(hx:vx.length<=1000000) :
  ∃ Q,(vo l () xs gz vx bK bG bH).run=some (decide ((Bl l).1=0),((),(xs,(gz,(vx++Q,(bK,(bG,bH)))))))/\((Bl l).1=0->Q=(Bl l).2.2.2.1):=by
 by_cases c1:2<=l.length/\zT (wd l 1)=true
 ·have hg:(jy l (2:Int)).run=some ((YF l 2).1,(YF l 2).2):=Qz l 2 (by decide)
  refine⟨[(wd l 1,((YF l 2).1,()))],?_,?_⟩
  ·unfold vo
   refine(z6 (a:=(false,((),(xs,(gz,(vx,(bK,(bG,bH)))))))) ?_ _).trans ?_
   ·rw[z8 (decide_eq_false (by omega)),zb (dK (by omega)),z6 (xB _)]
    simp only[zp,T.zh,zn,z7]
    show some (!zT (wd l 1),_)=_
    rw[c1.2]; rfl
   ·dsimp only
    rw[zg,z6 hg]
    dsimp only
    rw[zb (dK (by omega)),lF _ rfl rfl rfl (by omega)]
    simp only[List.length_append,List.length_singleton,zp,T.zh,zn,z7]
    have:(YF l 2).2=decide ((Bl l).1=0):=by
     unfold Bl
     cases(YF l 2).2 with
     | false=>rw[if_neg (λh=>by have:=h.2.2; cases this),decide_eq_false (by decide)]
     | true=>rw[if_pos ⟨c1.1,c1.2,rfl⟩]; rfl
    rw[this]
    rfl
  ·intro h0
   unfold Bl at h0 ⊢
   split at h0
   ·rename_i h; rw[if_pos h]
   ·exact absurd h0 (by decide)
 ·have e2:Bl l=(2,vv):=by unfold Bl; rw[if_neg (λh=>c1 ⟨h.1,h.2.1⟩)]
  refine⟨[],?_,λh=>by rw[e2]at h; exact absurd h (by decide)⟩
  unfold vo
  rw[e2,List.append_nil]
  refine(z6 (a:=(true,((),(xs,(gz,(vx,(bK,(bG,bH)))))))) ?_ _).trans ?_
  ·by_cases k:2<=l.length
   ·have hn:zT (wd l 1)=false:=by
     cases h:zT (wd l 1)with
     | false=>rfl
     | true=>exact absurd ⟨k,h⟩ c1
    rw[z8 (decide_eq_false (by omega)),zb (dK (by omega)),z6 (xB _)]
    simp only[zp,T.zh,zn,z7]
    show some (!zT (wd l 1),_)=_
    rw[hn]; rfl
   ·rw[za (decide_eq_true (by omega))]
    simp only[zp,T.zh,zn,z7]
  ·dsimp only
   rw[zi]
   simp only[zp,T.zh,zn,z7]
   rfl
theorem MN(c k:UInt8):strLt [c] [k]=decide (c.toNat<k.toNat):=by
 show Op.bytesLess [c] [k]=_
 unfold Op.bytesLess
 by_cases h:c.toNat<k.toNat
 ·rw[decide_eq_true h]; simp[Op.bytesLess,UInt8.lt_iff_toNat_lt,h]
 ·rw[decide_eq_false h]; simp[Op.bytesLess,UInt8.lt_iff_toNat_lt,h]
theorem UN{e:Ty}(l:List (den e))(k:Nat):wY (e:=e) (k:Int) ((l.length:Nat):Int) l=l.drop k:=by unfold wY; simp only[Int.toNat_natCast,List.take_length]
def Mk(w:List zf):Option Int:=match w with
 | [a,[c]]=>if zr a [115,99,97,108,101]=true/\48<=c.toNat/\c.toNat<=57 then some ((c.toNat:Int)-48)else none
 | _=>none
theorem Fs(a:zf)(c:UInt8):Mk [a,[c]]=if zr a [115,99,97,108,101]=true/\48<=c.toNat/\c.toNat<=57 then some ((c.toNat:Int)-48)else none:=rfl
theorem Ws:∀ (x:zf) (r:List zf),V8 (x::r)=Mk (x::r)
 | _,[]=>rfl
 | _,[[]]=>rfl
 | _,[[_]]=>rfl
 | _,[_::_::_]=>rfl
 | _,[]::_::_=>rfl
 | _,[_]::_::_=>rfl
 | _,(_::_::_)::_::_=>rfl
theorem z0p(l:List zf)(n k:Nat)(s:zf)(h:k<n):(xV l (n:Int) (k:Int) s).run=some (decide (l.length=n)&&zr (wd l k) s):=by
 unfold xV
 rw[zb (λh1=>qp (by rw[beq_iff_eq]at h1; omega)),z7]
 have:(((l.length:Nat):Int)==(n:Int))=decide (l.length=n):=by rw[Bool.eq_iff_iff,beq_iff_eq,decide_eq_true_eq]; omega
 rw[this]; rfl
theorem VR(l:List zf)(xs:List Switch)(gz:List Param)(vx:List xm)(bK:List Field)(bG:List xe)(bH:List Check)(hx:bK.length<=1000000)(Dx:vx.length<=1000000) :
  ∃ Q,(vR l () xs gz vx bK bG bH).run=some (decide ((BA vx.length l).1=0),((),(xs,(gz,(vx,(bK++Q,(bG,bH)))))))/\((BA vx.length l).1=0->Q=(BA vx.length l).2.2.2.2.1):=by
 by_cases c1:2<=l.length/\zT (wd l 1)=true/\vx.length≠0
 ·have hw:zF (((vx.length:Nat):Int)-1)=(vx.length:Int)-1:=zu (by omega) (by omega)
  have d2:wY (e:=.str) (2:Int) ((l.length:Nat):Int) l=l.drop 2:=UN (e:=.str) l 2
  have d3:wY (e:=.str) (1:Int) (((l.drop 2).length:Nat):Int) (l.drop 2)=l.drop 3:=by
   rw[show l.drop 3=(l.drop 2).drop 1 by rw[List.drop_drop]]
   exact UN (e:=.str) (l.drop 2) 1
  refine⟨[(wd l 1,((vx.length:Int)-1,(tA (l.drop 2),((Mk (gE l)).getD 0,()))))],?_,?_⟩
  ·unfold vR
   refine(z6 (a:=(false,((),(xs,(gz,(vx,(bK,(bG,bH)))))))) ?_ _).trans ?_
   ·rw[z8 (decide_eq_false (by omega)),zb (dK (by omega)),z6 (xB _)]
    show(T.ite (!zT (wd l 1)) _ _).run=_
    rw[c1.2.1,z8 (by rfl)]
    simp only[zp,T.zh,zn,z7]
    rw[beq_eq_false_iff_ne.2 (by omega)]
   ·dsimp only
    rw[zg,zb (dK (by omega)),zb (de.2 ⟨by omega,by omega,by omega⟩),d2,hw]
    refine(z6 (a:=(gE l,((),(xs,(gz,(vx,(bK,(bG,(bH,(wd l 1,((vx.length:Int)-1,(tA (l.drop 2),((0:Int),())))))))))))) ) ?_ _).trans ?_
    ·have hm:(decide ((0:Int)<(((l.drop 2).length:Nat):Int))&&zr (nth (l.drop 2) (0:Int) (zj .str)) ([109,117,115,116]:zf))=tA (l.drop 2):=by
      unfold tA
      cases l.drop 2 with
      | nil=>rfl
      | cons x r=>rw[decide_eq_true (by rw[List.length_cons]; omega)]; rfl
     rw[zb (λh=>Tl (by have:=of_decide_eq_true h; omega)),hm]
     unfold gE
     cases q:tA (l.drop 2)with
     | true =>
      have hp:0<(l.drop 2).length:=by
       cases h:l.drop 2 with
       | nil=>rw[h]at q; cases q
       | cons=>simp
      rw[zi,zb (de.2 ⟨by omega,by omega,by omega⟩),d3]
      simp only[zp,T.zh,zn,z7]
      rfl
     | false =>
      rw[zg]
      simp only[zp,T.zh,zn,z7]
      rfl
    ·dsimp only
     refine(z6 (a:=((match Mk (gE l)with | some _=>[] | none=>gE l),((),(xs,(gz,(vx,(bK,(bG,(bH,(wd l 1,((vx.length:Int)-1,(tA (l.drop 2),((Mk (gE l)).getD 0,())))))))))))) ) ?_ _).trans ?_
     ·refine(z6 (a:=((Mk (gE l)).isSome,((),(xs,(gz,(vx,(bK,(bG,(bH,(wd l 1,((vx.length:Int)-1,(tA (l.drop 2),((0:Int),())))))))))))) ) ?_ _).trans ?_
      ·have hk:(xV (gE l) (2:Int) (0:Int) ([115,99,97,108,101]:zf)).run=some (decide ((gE l).length=2)&&zr (wd (gE l) 0) [115,99,97,108,101]):=z0p (gE l) 2 0 _ (by decide)
       rw[z6 hk]
       generalize gE l=w
       by_cases k:w.length=2/\zr (wd w 0) [115,99,97,108,101]=true
       ·rw[za (by rw[decide_eq_true k.1,k.2]; rfl),zb (dK (by omega))]
        match w,k with
        | [a,[]],k=>rw[z8 (by rfl)]; simp only[zp,T.zh,zn,z7]; rfl
        | [a,x::y::r],k =>
         rw[z8 (by rw[beq_eq_false_iff_ne]; show((List.length (x::y::r):Nat):Int)≠1; rw[List.length_cons,List.length_cons]; omega)]
         simp only[zp,T.zh,zn,z7]; rfl
        | [a,[c]],k =>
         have ha:zr a [115,99,97,108,101]=true:=k.2
         have e1:strLt (nth [a,[c]] (1:Int) (zj .str)) [48]=decide (c.toNat<48):=MN c 48
         have e2:strLt (nth [a,[c]] (1:Int) (zj .str)) [57]=decide (c.toNat<57):=MN c 57
         have e3:zr (nth [a,[c]] (1:Int) (zj .str)) [57]=decide (c.toNat=57):=by
          show zr [c] [57]=_
          rw[vD]
          by_cases h:c=57
          ·subst h; rfl
          ·rw[decide_eq_false (λq=>h (by injection q)),decide_eq_false (show ¬ c.toNat=57 from λq=>h (UInt8.toNat_inj.1 q))]
         rw[za (by rfl),zb (dK (by simp)),e1]
         by_cases g1:c.toNat<48
         ·rw[decide_eq_true g1,z8 (by rfl)]
          simp only[zp,T.zh,zn,z7]
          rw[Fs,if_neg (λh=>by have:=h.2.1; omega)]; rfl
         ·rw[decide_eq_false g1,za (by rfl),zb (dK (by simp)),e2,e3]
          simp only[zp,T.zh,zn,z7]
          rw[Fs]
          by_cases g2:c.toNat<=57
          ·rw[if_pos ⟨ha,by omega,g2⟩]
           have:(decide (c.toNat<57)||decide (c.toNat=57))=true:=by
            rw[Bool.or_eq_true,decide_eq_true_eq,decide_eq_true_eq]; omega
           rw[this]; rfl
          ·rw[if_neg (λh=>g2 h.2.2),decide_eq_false (by omega),decide_eq_false (by omega)]; rfl
       ·have hs:Mk w=none:=by
         unfold Mk
         split
         ·rename_i a c
          rw[if_neg (λh=>k ⟨rfl,h.1⟩)]
         ·rfl
        rw[z8 (by
         by_cases g:w.length=2
         ·rw[decide_eq_true g,Bool.true_and]
          cases h:zr (wd w 0) [115,99,97,108,101]with
          | false=>rfl
          | true=>exact absurd ⟨g,h⟩ k
         ·rw[decide_eq_false g]; rfl),hs]
        simp only[zp,T.zh,zn,z7]
        rfl
      ·dsimp only
       generalize gE l=w
       cases q:Mk w with
       | none =>
        show(T.ite false _ _).run=_
        rw[zg]
        simp only[zp,T.zh,zn,z7]
        rfl
       | some v =>
        show(T.ite true _ _).run=_
        unfold Mk at q
        split at q
        ·rename_i a c
         split at q
         ·rename_i h
          injection q with q
          have e4:zF (YE (qm (nth [a,[c]] (1:Int) (zj .str)) (0:Int)-48))=v:=by
           show zF (YE ((c.toNat:Int)-48))=v
           have:=h.2.1
           have:=h.2.2
           rw[Yw (by omega) (by omega),zu (by omega) (by omega)]
           exact q
          rw[zi,zb (dK (by simp)),zb (Tl (by show 0<List.length [c]; simp)),e4]
          simp only[zp,T.zh,zn,z7]
          rfl
         ·cases q
        ·cases q
     ·dsimp only
      rw[lF _ rfl rfl rfl (by omega)]
      simp only[List.length_append,List.length_singleton,zp,T.zh,zn,z7]
      congr 2
      unfold BA
      rw[if_pos c1]
      generalize gE l=w
      cases q:Mk w with
      | some v =>
       cases w with
       | nil=>cases q
       | cons x r=>rw[Ws,q]; rfl
      | none =>
       cases w with
       | nil=>rfl
       | cons x r =>
        rw[Ws,q]
        show(((List.length (x::r):Nat):Int)==0)=decide ((2:Int)=0)
        rw[List.length_cons,beq_eq_false_iff_ne.2 (by omega)]; rfl
  ·intro h0
   unfold BA at h0 ⊢
   rw[if_pos c1]at h0 ⊢
   generalize gE l=w at h0 ⊢
   cases q:V8 w with
   | none=>rw[q]at h0; exact absurd h0 (show ¬ (2:Int)=0 by decide)
   | some v =>
    have:(Mk w).getD 0=v:=by
     cases w with
     | nil=>injection q
     | cons x r=>rw[Ws]at q; rw[q]; rfl
    rw[this]
 ·have e2:BA vx.length l=(2,vv):=by unfold BA; rw[if_neg c1]
  refine⟨[],?_,λh=>by rw[e2]at h; exact absurd h (by decide)⟩
  unfold vR
  rw[e2,List.append_nil]
  refine(z6 (a:=(true,((),(xs,(gz,(vx,(bK,(bG,bH)))))))) ?_ _).trans ?_
  ·by_cases k:2<=l.length
   ·rw[z8 (decide_eq_false (by omega)),zb (dK (by omega)),z6 (xB _)]
    show(T.ite (!zT (wd l 1)) _ _).run=_
    cases h:zT (wd l 1)with
    | false =>
     rw[za (by rfl)]
     simp only[zp,T.zh,zn,z7]
    | true =>
     rw[z8 (by rfl)]
     simp only[zp,T.zh,zn,z7]
     have:vx.length=0:=Classical.byContradiction λg=>c1 ⟨k,h,g⟩
     rw[this]; rfl
   ·rw[za (decide_eq_true (by omega))]
    simp only[zp,T.zh,zn,z7]
  ·dsimp only
   rw[zi]
   simp only[zp,T.zh,zn,z7]
   rfl
theorem K2:∀ {s:zf} {l:zf} {c:Int} {r:zf},yS s=some (l,c,r)->c=0\/c=1\/c=2
 | [],_,_,_,h=>by cases h
 | b::s,l,c,r,h=>by
  unfold yS at h
  split at h
  ·injection h with h; injection h with _ h; injection h with h _; exact .inl h.symm
  ·split at h
   ·split at h
    ·injection h with h; injection h with _ h; injection h with h _; exact .inr (.inr h.symm)
    ·injection h with h; injection h with _ h; injection h with h _; exact .inr (.inl h.symm)
   ·split at h
    ·rename_i q
     injection h with h; injection h with _ h; injection h with h _
     rw[<- h]
     exact K2 q
    ·cases h
theorem L5(s:zf):(kc [60,61] s).2.2.2=(qX s).2.2.2/\((qX s).2.2.2=0->(kc [60,61] s).1=(qX s).1/\(kc [60,61] s).2.1=(qX s).2.1/\PL.sj (λt=>zr (kc [60,61] s).2.2.1 t) 0 [[61],[60],[60,61]]=(qX s).2.2.1):=by
 unfold kc qX
 cases h:yS s with
 | none=>exact⟨rfl,λh=>absurd h (by decide)⟩
 | some p =>
  obtain⟨l,c,r⟩:=p
  dsimp only
  have hc:=K2 h
  have hk:(0:Int)<=cn [60,61] (gJ c):=by rcases hc with rfl | rfl | rfl<;>decide
  by_cases e:(qB l).2.2≠0
  ·rw[if_pos e,if_pos e]
   exact⟨rfl,λh=>absurd h e⟩
  ·rw[if_neg e,if_neg e]
   refine⟨if_neg (λh=>h.2 hk),λ_=>⟨rfl,rfl,?_⟩⟩
   show PL.sj (λt=>zr (gJ c) t) 0 [[61],[60],[60,61]]=c
   rcases hc with rfl | rfl | rfl<;>decide
theorem OG(s:zf):(kc [61] s).2.2.2=(if(qX s).2.2.2=0/\(qX s).2.2.1≠0 then 2 else(qX s).2.2.2)/\((kc [61] s).2.2.2=0->(kc [61] s).1=(qX s).1/\(kc [61] s).2.1=(qX s).2.1):=by
 cases h:yS s with
 | none =>
  have h1:kc [61] s=(zE,(zE,(([]:zf),(2:Int)))):=by unfold kc; rw[h]
  have h2:qX s=(zE,(zE,((0:Int),(2:Int)))):=by unfold qX; rw[h]
  rw[h1,h2]
  exact⟨rfl,λh=>absurd h (by decide)⟩
 | some p =>
  obtain⟨l,c,r⟩:=p
  have hc:=K2 h
  have hk:(0:Int)<=cn [61] (gJ c)↔c=0:=by rcases hc with rfl | rfl | rfl<;>decide
  by_cases e:(qB l).2.2≠0
  ·have h1:kc [61] s=((qB l).1,(zE,(([]:zf),(qB l).2.2))):=by unfold kc; rw[h]; exact if_pos e
   have h2:qX s=(zE,(zE,((0:Int),(qB l).2.2))):=by unfold qX; rw[h]; exact if_pos e
   rw[h1,h2]
   exact⟨(if_neg (λh=>e h.1)).symm,λh=>absurd h e⟩
  ·have h1:kc [61] s=((qB l).1,((qB r).1,(gJ c,(if(qB r).2.2=0/\¬ (0<=cn [61] (gJ c))then 2 else(qB r).2.2)))):=by unfold kc; rw[h]; exact if_neg e
   have h2:qX s=((qB l).1,((qB r).1,(c,(qB r).2.2))):=by unfold qX; rw[h]; exact if_neg e
   rw[h1,h2]
   refine⟨?_,λ_=>⟨rfl,rfl⟩⟩
   simp only[ne_eq,hk]
theorem U4(l:List zf)(rest:zf)(xs:List Switch)(gz:List Param)(vx:List xm)(bK:List Field)(bG:List xe)(bH:List Check)(hx:bH.length<=1000000)(Dx:vx.length<=1000000)(hr:rest.length<=80000) :
  ∃ Q,(wN l rest () xs gz vx bK bG bH).run=some ((Mf vx.length l rest).1,((),(xs,(gz,(vx,(bK,(bG,bH++Q)))))))/\((Mf vx.length l rest).1=0->Q=(Mf vx.length l rest).2.2.2.2.2.2):=by
 by_cases c1:l.length=2/\zT (wd l 1)=true/\vx.length≠0
 ·have hw:zF (((vx.length:Nat):Int)-1)=(vx.length:Int)-1:=zu (by omega) (by omega)
  obtain⟨q1,q2⟩:=L5 rest
  have e0:Mf vx.length l rest=((qX rest).2.2.2,[],[],[],[],[],[(wd l 1,((vx.length:Int)-1,((qX rest).2.2.1,((qX rest).1,((qX rest).2.1,())))))]):=by unfold Mf; rw[if_pos c1]
  have hE:(vr rest [60,61]).run=some ((kc [60,61] rest).1,((kc [60,61] rest).2.1,((kc [60,61] rest).2.2.1,(kc [60,61] rest).2.2.2))):=tY rest [60,61] hr (by decide)
  refine⟨[(wd l 1,((vx.length:Int)-1,(PL.sj (λt=>zr (kc [60,61] rest).2.2.1 t) 0 [[61],[60],[60,61]],((kc [60,61] rest).1,((kc [60,61] rest).2.1,())))))],?_,?_⟩
  ·unfold wN
   refine(z6 (a:=(false,((),(xs,(gz,(vx,(bK,(bG,bH)))))))) ?_ _).trans ?_
   ·rw[z8 (by rw[c1.1]; rfl),zb (dK (by omega)),z6 (xB _)]
    show(T.ite (!zT (wd l 1)) _ _).run=_
    rw[c1.2.1,z8 (by rfl)]
    simp only[zp,T.zh,zn,z7]
    rw[beq_eq_false_iff_ne.2 (by omega)]
   ·dsimp only
    rw[zg,zb (dK (by omega)),z6 hE]
    dsimp only
    rw[show wy=.ret [[61],[60],[60,61]]from rfl,z6 (z7 _),z6 (pZ _ _ (by decide)),lF _ rfl rfl rfl (by omega),hw,dB,dB]
    simp only[List.length_append,List.length_singleton,zp,T.zh,zn,z7]
    rw[e0,q1]
    rfl
  ·intro h0
   rw[e0]at h0 ⊢
   obtain⟨g1,g2,g3⟩:=q2 h0
   rw[g1,g2,g3]
 ·have e2:Mf vx.length l rest=(2,vv):=by unfold Mf; rw[if_neg c1]
  refine⟨[],?_,λh=>by rw[e2]at h; exact absurd h (by decide)⟩
  unfold wN
  rw[e2,List.append_nil]
  refine(z6 (a:=(true,((),(xs,(gz,(vx,(bK,(bG,bH)))))))) ?_ _).trans ?_
  ·by_cases k:l.length=2
   ·rw[z8 (by rw[k]; rfl),zb (dK (by omega)),z6 (xB _)]
    show(T.ite (!zT (wd l 1)) _ _).run=_
    cases h:zT (wd l 1)with
    | false =>
     rw[za (by rfl)]
     simp only[zp,T.zh,zn,z7]
    | true =>
     rw[z8 (by rfl)]
     simp only[zp,T.zh,zn,z7]
     have:vx.length=0:=Classical.byContradiction λg=>c1 ⟨k,h,g⟩
     rw[this]; rfl
   ·rw[za (by rw[bne_iff_ne]; omega)]
    simp only[zp,T.zh,zn,z7]
  ·dsimp only
   rw[zi]
   simp only[zp,T.zh,zn,z7]
theorem K6(l:List zf)(rest:zf)(xs:List Switch)(gz:List Param)(vx:List xm)(bK:List Field)(bG:List xe)(bH:List Check)(hx:bG.length<=1000000)(hr:rest.length<=80000) :
  ∃ Q,(wa l rest () xs gz vx bK bG bH).run=some ((HM l rest).1,((),(xs,(gz,(vx,(bK,(bG++Q,bH)))))))/\((HM l rest).1=0->Q=(HM l rest).2.2.2.2.2.1):=by
 have hI:(qM [[114,101,113,117,105,114,101,100],[115,116,114,111,110,103],[109,101,100,105,117,109],[119,101,97,107]] (nth l (1:Int) (zj .str))).run=some (Cz (wd l 1)):=pZ _ _ (by decide)
 have hC:(xY [[114,101,113,117,105,114,101,100],[115,116,114,111,110,103],[109,101,100,105,117,109],[119,101,97,107]] (nth l (1:Int) (zj .str))).run=some (decide (0<=Cz (wd l 1))):=by
  unfold xY
  rw[z6 hI,z7]
 have hS:xC=.ret [[114,101,113,117,105,114,101,100],[115,116,114,111,110,103],[109,101,100,105,117,109],[119,101,97,107]]:=rfl
 by_cases c1:3<=l.length/\0<=Cz (wd l 1)/\zT (wd l 2)=true
 ·have hg:(jy l (3:Int)).run=some ((YF l 3).1,(YF l 3).2):=Qz l 3 (by decide)
  obtain⟨q1,q2⟩:=OG rest
  have hE:(vr rest [61]).run=some ((kc [61] rest).1,((kc [61] rest).2.1,((kc [61] rest).2.2.1,(kc [61] rest).2.2.2))):=tY rest [61] hr (by decide)
  by_cases c2:(YF l 3).2=true
  ·refine⟨[(wd l 2,(Cz (wd l 1),((YF l 3).1,((kc [61] rest).1,((kc [61] rest).2.1,())))))],?_,?_⟩
   ·unfold wa
    refine(z6 (a:=(false,((),(xs,(gz,(vx,(bK,(bG,bH)))))))) ?_ _).trans ?_
    ·rw[z8 (decide_eq_false (by omega)),hS,z6 (z7 _),zb (dK (by omega)),z6 hC,z8 (by rw[decide_eq_true c1.2.1]; rfl),zb (Ha (by omega)),z6 (xB _)]
     simp only[zp,T.zh,zn,z7]
     show some (!zT (wd l 2),_)=_
     rw[c1.2.2]; rfl
    ·dsimp only
     rw[zg,z6 hg]
     dsimp only
     rw[c2,z8 (by rfl),zb (Ha (by omega)),hS,z6 (z7 _),zb (dK (by omega)),z6 hI,z6 hE]
     dsimp only
     rw[lF _ rfl rfl rfl (by omega),dB,dB]
     simp only[List.length_append,List.length_singleton,zp,T.zh,zn,z7]
     have:(kc [61] rest).2.2.2=(HM l rest).1:=by
      unfold HM
      rw[if_pos ⟨c1.1,c1.2.1,c1.2.2,c2⟩,q1]
      split<;>rfl
     rw[this]
     rfl
   ·intro h0
    unfold HM at h0 ⊢
    rw[if_pos ⟨c1.1,c1.2.1,c1.2.2,c2⟩]at h0 ⊢
    by_cases k:(qX rest).2.2.2=0/\(qX rest).2.2.1≠0
    ·rw[if_pos k]at h0; exact absurd h0 (by decide)
    ·rw[if_neg k]at h0 ⊢ q1
     obtain⟨g1,g2⟩:=q2 (q1.trans h0)
     rw[g1,g2]
  ·have e2:HM l rest=(2,vv):=by unfold HM; rw[if_neg (λh=>c2 h.2.2.2)]
   refine⟨[],?_,λh=>by rw[e2]at h; exact absurd h (by decide)⟩
   unfold wa
   rw[e2,List.append_nil]
   refine(z6 (a:=(false,((),(xs,(gz,(vx,(bK,(bG,bH)))))))) ?_ _).trans ?_
   ·rw[z8 (decide_eq_false (by omega)),hS,z6 (z7 _),zb (dK (by omega)),z6 hC,z8 (by rw[decide_eq_true c1.2.1]; rfl),zb (Ha (by omega)),z6 (xB _)]
    simp only[zp,T.zh,zn,z7]
    show some (!zT (wd l 2),_)=_
    rw[c1.2.2]; rfl
   ·dsimp only
    rw[zg,z6 hg]
    dsimp only
    rw[za (by cases h:(YF l 3).2 with | false=>rfl | true=>exact absurd h c2)]
    simp only[zp,T.zh,zn,z7]
 ·have e2:HM l rest=(2,vv):=by unfold HM; rw[if_neg (λh=>c1 ⟨h.1,h.2.1,h.2.2.1⟩)]
  refine⟨[],?_,λh=>by rw[e2]at h; exact absurd h (by decide)⟩
  unfold wa
  rw[e2,List.append_nil]
  refine(z6 (a:=(true,((),(xs,(gz,(vx,(bK,(bG,bH)))))))) ?_ _).trans ?_
  ·by_cases k:3<=l.length
   ·rw[z8 (decide_eq_false (by omega)),hS,z6 (z7 _),zb (dK (by omega)),z6 hC]
    by_cases k2:0<=Cz (wd l 1)
    ·rw[z8 (by rw[decide_eq_true k2]; rfl),zb (Ha (by omega)),z6 (xB _)]
     simp only[zp,T.zh,zn,z7]
     show some (!zT (wd l 2),_)=_
     cases h:zT (wd l 2)with
     | false=>rfl
     | true=>exact absurd ⟨k,k2,h⟩ c1
    ·rw[za (by rw[decide_eq_false k2]; rfl)]
     simp only[zp,T.zh,zn,z7]
   ·rw[za (decide_eq_true (by omega))]
    simp only[zp,T.zh,zn,z7]
  ·dsimp only
   rw[zi]
   simp only[zp,T.zh,zn,z7]
def OF(w:zf):Bool:=match w with | b::_=>decide (b=35) | []=>false
def mE(np:Nat)(l:List zf)(rest:zf)(colon:Bool):Int×Zb:=match l with
 | []=>if colon=true then(2,vv)else(0,vv)
 | w::_=>if OF w=true then(0,vv)else
   if colon=true then(if zr w [99,104,101,99,107]=true then Mf np l rest else if zr w [114,117,108,101]=true then HM l rest else(2,vv))
   else if zr w [115,119,105,116,99,104]=true then Me l else if zr w [112,97,114,97,109]=true then Bj l
   else if zr w [112,97,103,101]=true then Bl l else if zr w [102,105,101,108,100]=true then BA np l else(2,vv)
theorem ux(np:Nat)(w:zf)(r:List zf)(rest:zf)(colon:Bool):mE np (w::r) rest colon=if OF w=true then(0,vv)else
   if colon=true then(if zr w [99,104,101,99,107]=true then Mf np (w::r) rest else if zr w [114,117,108,101]=true then HM (w::r) rest else(2,vv))
   else if zr w [115,119,105,116,99,104]=true then Me (w::r)else if zr w [112,97,114,97,109]=true then Bj (w::r)
   else if zr w [112,97,103,101]=true then Bl (w::r)else if zr w [102,105,101,108,100]=true then BA np (w::r)else(2,vv):=rfl
def jZ(np:Nat)(line:zf):Int×Zb:=mE np (gL 32 [] (ua line [58]).1) (ua line [58]).2.1 (ua line [58]).2.2
theorem XA(c:UInt8):∀ (s cur:zf),∀ w∈gL c cur s,w≠[]/\w.length<=cur.length+s.length
 | [],cur,w,h=>by
  unfold gL at h
  split at h
  ·cases h
  ·rename_i hc
   rw[List.mem_singleton.1 h]
   exact⟨hc,by omega⟩
 | b::r,cur,w,h=>by
  unfold gL at h
  split at h
  ·split at h
   ·have:=XA c r [] w h
    exact⟨this.1,by have:=this.2; simp only[List.length_cons,List.length_nil]at *; omega⟩
   ·rename_i hc
    rcases List.mem_cons.1 h with rfl | h
    ·exact⟨hc,by omega⟩
    ·have:=XA c r [] w h
     exact⟨this.1,by have:=this.2; simp only[List.length_cons,List.length_nil]at *; omega⟩
  ·have:=XA c r (cur++[b]) w h
   exact⟨this.1,by have:=this.2; simp only[List.length_append,List.length_cons,List.length_nil]at *; omega⟩
structure SmS(xs:List Switch)(gz:List Param)(vx:List xm)(bK:List Field)(bG:List xe)(bH:List Check):Prop where
 l0:xs.length<=1000000
 l1:gz.length<=1000000
 l2:vx.length<=1000000
 l3:bK.length<=1000000
 l4:bG.length<=1000000
 l5:bH.length<=1000000
def ZC(xs:List Switch)(gz:List Param)(vx:List xm)(bK:List Field)(bG:List xe)(bH:List Check)(D:Zb):List Switch×List Param×List xm×List Field×List xe×List Check :=
 (xs++D.1,(gz++D.2.1,(vx++D.2.2.1,(bK++D.2.2.2.1,(bG++D.2.2.2.2.1,bH++D.2.2.2.2.2)))))
theorem Xs(xs:List Switch)(gz:List Param)(vx:List xm)(bK:List Field)(bG:List xe)(bH:List Check):ZC xs gz vx bK bG bH vv=(xs,(gz,(vx,(bK,(bG,bH))))):=by
 unfold ZC vv
 simp only[List.append_nil]
theorem Ov(line:zf)(hl:line.length<=80000)(xs:List Switch)(gz:List Param)(vx:List xm)(bK:List Field)(bG:List xe)(bH:List Check)(h:SmS xs gz vx bK bG bH) :
  ∃ D,(c7 line () xs gz vx bK bG bH).run=some ((jZ vx.length line).1,((),ZC xs gz vx bK bG bH D))/\((jZ vx.length line).1=0->D=(jZ vx.length line).2):=by
 obtain⟨h0,h1,h2,h3,h4,h5⟩:=h
 have hC:(strings_Cut line [58]).run=some ((ua line [58]).1,((ua line [58]).2.1,(ua line [58]).2.2)):=by
  unfold strings_Cut
  rw[zb (by omega),z7]
 have hlen:=LP line 58
 unfold c7 jZ
 rw[z6 hC]
 dsimp only
 rw[z6 (IN _ (by omega))]
 have hm:=XA 32 (ua line [58]).1 []
 generalize gL 32 [] (ua line [58]).1=l at hm ⊢
 obtain⟨_,hr⟩:=hlen
 generalize (ua line [58]).2.1=rest at hr ⊢
 generalize (ua line [58]).2.2=colon
 cases l with
 | nil =>
  refine⟨vv,?_,?_⟩
  ·rw[zb ⟨(λ_ _ h=>by simp at h),(λh=>by simp at h)⟩,Xs]
   cases colon with
   | false =>
    rw[za (by rfl)]
    simp only[zp,T.zh,zn,z7]
    rfl
   | true =>
    rw[z8 (by rfl),za (by rfl),za (by rfl)]
    simp only[zp,T.zh,zn,z7]
    rfl
  ·intro h
   cases colon with
   | false=>rfl
   | true=>exact absurd h (show ¬ (2:Int)=0 by decide)
 | cons w r =>
  obtain⟨m1,m2⟩:=hm w List.mem_cons_self
  cases w with
  | nil=>exact absurd rfl m1
  | cons b q =>
  have hL:(((((b::q)::r).length:Nat):Int)==(0:Int))=false:=by rw[List.length_cons,beq_eq_false_iff_ne]; omega
  have hP:decide ((0:Int)<((((b::q)::r).length:Nat):Int))=true:=by rw[List.length_cons]; exact decide_eq_true (by omega)
  have Bv:qu (0:Int) ((b::q)::r).length:=Tl (by simp)
  have h0w:qu (0:Int) (nth ((b::q)::r) (0:Int) (zj .str)).length:=Tl (by show 0<(b::q).length; simp)
  have hb:(qm (nth ((b::q)::r) (0:Int) (zj .str)) (0:Int)==(35:Int))=decide (b=35):=NC b 35
  have hw:nth ((b::q)::r) (0:Int) (zj .str)=b::q:=rfl
  rw[zb ⟨λ_ _ _=>⟨Bv,h0w⟩,λ_ _=>⟨Bv,h0w⟩⟩,hL,hb,hP]
  simp only[cond_false,Bool.true_and]
  by_cases c:b=35
  ·have e:mE vx.length ((b::q)::r) rest colon=(0,vv):=if_pos (decide_eq_true c)
   rw[e]
   refine⟨vv,?_,λ_=>rfl⟩
   rw[za (decide_eq_true c),Xs]
   simp only[zp,T.zh,zn,z7]
  ·rw[z8 (decide_eq_false c),zg,zb (λ_=>Bv),hw]
   have hn:¬ (OF (b::q)=true):=λh=>c (of_decide_eq_true h)
   cases colon with
   | true =>
    by_cases k1:zr (b::q) [99,104,101,99,107]=true
    ·have e:mE vx.length ((b::q)::r) rest true=Mf vx.length ((b::q)::r) rest:=by
      rw[ux,if_neg hn,if_pos rfl,if_pos k1]
     obtain⟨Q,g1,g2⟩:=U4 ((b::q)::r) rest xs gz vx bK bG bH h5 h2 (by omega)
     rw[e]
     refine⟨([],[],[],[],[],Q),?_,λh => ?_⟩
     ·rw[za (by rw[k1]; rfl)]
      simp only[zp,T.zh,zn]
      rw[z6 g1]
      dsimp only
      simp only[zp,T.zh,zn,z7]
      unfold ZC
      simp only[List.append_nil]
     ·rw[g2 h]
      unfold Mf at h ⊢
      split at h
      ·rename_i d; rw[if_pos d]
      ·exact absurd h (by decide)
    ·by_cases k2:zr (b::q) [114,117,108,101]=true
     ·have e:mE vx.length ((b::q)::r) rest true=HM ((b::q)::r) rest:=by
       rw[ux,if_neg hn,if_pos rfl,if_neg k1,if_pos k2]
      obtain⟨Q,g1,g2⟩:=K6 ((b::q)::r) rest xs gz vx bK bG bH h4 (by omega)
      rw[e]
      refine⟨([],[],[],[],Q,[]),?_,λh => ?_⟩
      ·rw[z8 (by rw[Bool.eq_false_iff.2 k1]; rfl),zb (λ_=>Bv),za (by rw[k2]; rfl)]
       simp only[zp,T.zh,zn]
       rw[z6 g1]
       dsimp only
       simp only[zp,T.zh,zn,z7]
       unfold ZC
       simp only[List.append_nil]
      ·rw[g2 h]
       unfold HM at h ⊢
       split at h
       ·rename_i d
        rw[if_pos d]
        split at h
        ·exact absurd h (by decide)
        ·rename_i d2; rw[if_neg d2]
       ·exact absurd h (by decide)
     ·have e:mE vx.length ((b::q)::r) rest true=(2,vv):=by
       rw[ux,if_neg hn,if_pos rfl,if_neg k1,if_neg k2]
      rw[e]
      refine⟨vv,?_,λ_=>rfl⟩
      rw[z8 (by rw[Bool.eq_false_iff.2 k1]; rfl),zb (λ_=>Bv),z8 (by rw[Bool.eq_false_iff.2 k2]; rfl),zi,za (by rfl),Xs]
      simp only[zp,T.zh,zn,z7]
   | false =>
    have fin:∀ (v:Int),v=0\/v=2->∀ (ys:List Switch) (ys1:List Param) (ys2:List xm) (ys3:List Field) (ys4:List xe) (ys5:List Check),(T.ite (!decide (v=0)) (.ret ((2:Int),((),(ys,(ys1,(ys2,(ys3,(ys4,ys5)))))))) (.ret ((0:Int),((),(ys,(ys1,(ys2,(ys3,(ys4,ys5)))))))):T (Int×Unit×List Switch×List Param×List xm×List Field×List xe×List Check)).run=some (v,((),(ys,(ys1,(ys2,(ys3,(ys4,ys5))))))):=by
     intro v hv ys ys1 ys2 ys3 ys4 ys5
     rcases hv with rfl | rfl<;>rfl
    rw[z8 (by rfl),zb (λh=>by cases h),z8 (by rfl),zg,zb Bv]
    by_cases k1:zr (b::q) [115,119,105,116,99,104]=true
    ·have e:mE vx.length ((b::q)::r) rest false=Me ((b::q)::r):=by
      rw[ux,if_neg hn,if_neg (by decide),if_pos k1]
     have g1:=KK ((b::q)::r) xs gz vx bK bG bH h0
     rw[e]
     refine⟨((Me ((b::q)::r)).2.1,[],[],[],[],[]),?_,λh => ?_⟩
     ·rw[za k1]
      simp only[zp,T.zh,zn]
      rw[z6 g1]
      dsimp only
      unfold ZC
      simp only[List.append_nil]
      have:(Me ((b::q)::r)).1=0\/(Me ((b::q)::r)).1=2:=by unfold Me; split; exact .inl rfl; exact .inr rfl
      rcases this with h | h<;>rw[h]
      ·rw[z8 (by rfl)]; simp only[zp,T.zh,zn,z7]
      ·rw[za (by rfl)]; simp only[zp,T.zh,zn,z7]
     ·unfold Me at h ⊢
      split at h
      ·rename_i d; rw[if_pos d]
      ·exact absurd h (by decide)
    ·by_cases k2:zr (b::q) [112,97,114,97,109]=true
     ·have e:mE vx.length ((b::q)::r) rest false=Bj ((b::q)::r):=by
       rw[ux,if_neg hn,if_neg (by decide),if_neg k1,if_pos k2]
      obtain⟨Q,g1,g2⟩:=Hl ((b::q)::r) xs gz vx bK bG bH h1 (λs hs=>by have:=(hm s hs).2; simp only[List.length_nil]at this; omega)
      rw[e]
      refine⟨([],Q,[],[],[],[]),?_,λh => ?_⟩
      ·rw[z8 (Bool.eq_false_iff.2 k1),zb Bv,za k2]
       simp only[zp,T.zh,zn]
       rw[z6 g1]
       dsimp only
       unfold ZC
       simp only[List.append_nil]
       have:(Bj ((b::q)::r)).1=0\/(Bj ((b::q)::r)).1=2:=by unfold Bj; split; split; exact .inl rfl; exact .inr rfl; exact .inr rfl
       rcases this with h | h<;>rw[h]
       ·rw[z8 (by rfl)]; simp only[zp,T.zh,zn,z7]
       ·rw[za (by rfl)]; simp only[zp,T.zh,zn,z7]
      ·rw[g2 h]
       unfold Bj at h ⊢
       split at h
       ·rename_i d
        rw[if_pos d]
        cases hd:Ky (wd ((b::q)::r) 2)with
        | none=>rw[hd]at h; exact absurd h (show ¬ (2:Int)=0 by decide)
        | some v=>rfl
       ·exact absurd h (by decide)
     ·by_cases k3:zr (b::q) [112,97,103,101]=true
      ·have e:mE vx.length ((b::q)::r) rest false=Bl ((b::q)::r):=by
        rw[ux,if_neg hn,if_neg (by decide),if_neg k1,if_neg k2,if_pos k3]
       obtain⟨Q,g1,g2⟩:=KI ((b::q)::r) xs gz vx bK bG bH h2
       rw[e]
       refine⟨([],[],Q,[],[],[]),?_,λh => ?_⟩
       ·rw[z8 (Bool.eq_false_iff.2 k1),zb Bv,z8 (Bool.eq_false_iff.2 k2),zb Bv,za k3]
        simp only[zp,T.zh,zn]
        rw[z6 g1]
        dsimp only
        unfold ZC
        simp only[List.append_nil]
        have:(Bl ((b::q)::r)).1=0\/(Bl ((b::q)::r)).1=2:=by unfold Bl; split; exact .inl rfl; exact .inr rfl
        rcases this with h | h<;>rw[h]
        ·rw[z8 (by rfl)]; simp only[zp,T.zh,zn,z7]
        ·rw[za (by rfl)]; simp only[zp,T.zh,zn,z7]
       ·rw[g2 h]
        unfold Bl at h ⊢
        split at h
        ·rename_i d; rw[if_pos d]
        ·exact absurd h (by decide)
      ·by_cases k4:zr (b::q) [102,105,101,108,100]=true
       ·have e:mE vx.length ((b::q)::r) rest false=BA vx.length ((b::q)::r):=by
         rw[ux,if_neg hn,if_neg (by decide),if_neg k1,if_neg k2,if_neg k3,if_pos k4]
        obtain⟨Q,g1,g2⟩:=VR ((b::q)::r) xs gz vx bK bG bH h3 h2
        rw[e]
        refine⟨([],[],[],Q,[],[]),?_,λh => ?_⟩
        ·rw[z8 (Bool.eq_false_iff.2 k1),zb Bv,z8 (Bool.eq_false_iff.2 k2),zb Bv,z8 (Bool.eq_false_iff.2 k3),zb Bv,za k4]
         simp only[zp,T.zh,zn]
         rw[z6 g1]
         dsimp only
         unfold ZC
         simp only[List.append_nil]
         have:(BA vx.length ((b::q)::r)).1=0\/(BA vx.length ((b::q)::r)).1=2:=by unfold BA; split; split; exact .inl rfl; exact .inr rfl; exact .inr rfl
         rcases this with h | h<;>rw[h]
         ·rw[z8 (by rfl)]; simp only[zp,T.zh,zn,z7]
         ·rw[za (by rfl)]; simp only[zp,T.zh,zn,z7]
        ·rw[g2 h]
         unfold BA at h ⊢
         split at h
         ·rename_i d
          rw[if_pos d]
          cases hd:V8 (gE ((b::q)::r))with
          | none=>rw[hd]at h; exact absurd h (show ¬ (2:Int)=0 by decide)
          | some v=>rfl
         ·exact absurd h (by decide)
       ·have e:mE vx.length ((b::q)::r) rest false=(2,vv):=by
         rw[ux,if_neg hn,if_neg (by decide),if_neg k1,if_neg k2,if_neg k3,if_neg k4]
        rw[e]
        refine⟨vv,?_,λ_=>rfl⟩
        rw[z8 (Bool.eq_false_iff.2 k1),zb Bv,z8 (Bool.eq_false_iff.2 k2),zb Bv,z8 (Bool.eq_false_iff.2 k3),zb Bv,z8 (Bool.eq_false_iff.2 k4),za (by rfl),Xs]
        simp only[zp,T.zh,zn,z7]
abbrev Uk(S D:Zb):Zb:=ZC S.1 S.2.1 S.2.2.1 S.2.2.2.1 S.2.2.2.2.1 S.2.2.2.2.2 D
def gG:List zf->Zb->Nat->(Nat×Int)⊕Zb
 | [],S,_=>.inr S
 | line::r,S,k=>if(jZ S.2.2.1.length line).1=0 then gG r (Uk S (jZ S.2.2.1.length line).2) (k+1)else .inl (k+1,(jZ S.2.2.1.length line).1)
def El(S:Zb):Form:=(S.1,(S.2.1,(S.2.2.1,(S.2.2.2.1,(S.2.2.2.2.1,(S.2.2.2.2.2,()))))))
def noF:Form:=(([]:List Switch),(([]:List Param),(([]:List xm),(([]:List Field),(([]:List xe),(([]:List Check),()))))))
def CH(s:zf):Form×Int×Int:=if 16384<s.length then(noF,(0,3))else match gG (bQ 10 s) vv 0 with
 | .inl (k,e)=>(noF,((k:Int),e))
 | .inr S=>if fG (El S)=true then(El S,(0,0))else(noF,(0,2))
structure GS(S:Zb):Prop where
 s:∀ x∈S.1,x.1.length<=600
 p:∀ x∈S.2.1,x.1.length<=600/\wG 100 x.2.1
 g:∀ x∈S.2.2.1,x.1.length<=600/\x.2.1.length<=600
 d:∀ x∈S.2.2.2.1,x.1.length<=600
 r:∀ x∈S.2.2.2.2.1,x.1.length<=600/\x.2.2.1.length<=600/\jm x.2.2.2.1/\jm x.2.2.2.2.1
 c:∀ x∈S.2.2.2.2.2,x.1.length<=600/\jm x.2.2.2.1/\jm x.2.2.2.2.1
def Ea(S:Zb):Nat:=S.1.length+S.2.1.length+S.2.2.1.length+S.2.2.2.1.length+S.2.2.2.2.1.length+S.2.2.2.2.2.length
theorem z1L:GS vv:=⟨(λ_ h=>by cases h),(λ_ h=>by cases h),(λ_ h=>by cases h),(λ_ h=>by cases h),(λ_ h=>by cases h),(λ_ h=>by cases h)⟩
theorem z34{S D:Zb}(h:GS S)(k:GS D):GS (Uk S D) :=
 ⟨λx hx=>(List.mem_append.1 hx).elim (h.s x) (k.s x),λx hx=>(List.mem_append.1 hx).elim (h.p x) (k.p x),λx hx=>(List.mem_append.1 hx).elim (h.g x) (k.g x),
  λx hx=>(List.mem_append.1 hx).elim (h.d x) (k.d x),λx hx=>(List.mem_append.1 hx).elim (h.r x) (k.r x),λx hx=>(List.mem_append.1 hx).elim (h.c x) (k.c x)⟩
theorem FN(S D:Zb):Ea (Uk S D)=Ea S+Ea D:=by
 unfold Ea Uk ZC
 simp only[List.length_append]
 omega
theorem V5{s:zf}(h:zT s=true):s.length<=600:=by have:=(s6 h).1; omega
theorem Ei(w:List zf)(n:Nat):(YF w n).1.length<=600:=by
 unfold YF
 split
 ·exact Nat.zero_le _
 ·split
  ·rename_i h; exact V5 h.2.2
  ·exact Nat.zero_le _
theorem z1f{s:zf}{r:Rat}(h:Ky s=some r):wG 100 r:=by
 have:Mx s=some r:=by
  unfold Mx
  unfold Ky at h
  split at h
  ·cases h
  ·rename_i c
   rw[if_neg c]
   cases q:Ux s with
   | none=>rw[q]at h; cases h
   | some p=>rw[q]at h; exact h
 have h2:=z06 this
 exact⟨h2.1,h2.2.1,by have:=h2.2.2.1; omega,by have:=h2.2.2.2; omega⟩
theorem Hw(s:zf):jm (qX s).1/\jm (qX s).2.1:=by
 have hz:jm zE:=o5 (by decide) Xk.1
 unfold qX
 split
 ·exact⟨hz,hz⟩
 ·split
  ·exact⟨hz,hz⟩
  ·exact⟨WY _,WY _⟩
theorem og{α:Type}{x y:α}{p:α->Prop}(h:p x)(hy:y∈[x]):p y:=by rw[List.mem_singleton.1 hy]; exact h
theorem UG(np:Nat)(line:zf):GS (jZ np line).2/\Ea (jZ np line).2<=1:=by
 have hz:GS vv/\Ea vv<=1:=⟨z1L,by decide⟩
 unfold jZ
 generalize gL 32 [] (ua line [58]).1=l
 generalize (ua line [58]).2.1=rest
 generalize (ua line [58]).2.2=colon
 cases l with
 | nil=>cases colon; exact hz; exact hz
 | cons w r =>
  rw[ux]
  split
  ·exact hz
  ·split
   ·split
    ·unfold Mf
     split
     ·rename_i h
      exact⟨⟨(λ_ h=>by cases h),(λ_ h=>by cases h),(λ_ h=>by cases h),(λ_ h=>by cases h),(λ_ h=>by cases h),λy hy=>og (p:=λx:Check=>x.1.length<=600/\jm x.2.2.2.1/\jm x.2.2.2.2.1) ⟨V5 h.2.1,Hw rest⟩ hy⟩,Nat.le_refl 1⟩
     ·exact hz
    ·split
     ·unfold HM
      split
      ·rename_i h
       split
       ·exact hz
       ·exact⟨⟨(λ_ h=>by cases h),(λ_ h=>by cases h),(λ_ h=>by cases h),(λ_ h=>by cases h),λy hy=>og (p:=λx:xe=>x.1.length<=600/\x.2.2.1.length<=600/\jm x.2.2.2.1/\jm x.2.2.2.2.1) ⟨V5 h.2.2.1,Ei _ _,Hw rest⟩ hy,(λ_ h=>by cases h)⟩,Nat.le_refl 1⟩
      ·exact hz
     ·exact hz
   ·split
    ·unfold Me
     split
     ·rename_i h
      exact⟨⟨λy hy=>og (p:=λx:Switch=>x.1.length<=600) (V5 h.2.1) hy,(λ_ h=>by cases h),(λ_ h=>by cases h),(λ_ h=>by cases h),(λ_ h=>by cases h),(λ_ h=>by cases h)⟩,Nat.le_refl 1⟩
     ·exact hz
    ·split
     ·unfold Bj
      split
      ·rename_i h
       cases hd:Ky (wd (w::r) 2)with
       | none=>exact hz
       | some v=>exact⟨⟨(λ_ h=>by cases h),λy hy=>og (p:=λx:Param=>x.1.length<=600/\wG 100 x.2.1) ⟨V5 h.2,z1f hd⟩ hy,(λ_ h=>by cases h),(λ_ h=>by cases h),(λ_ h=>by cases h),(λ_ h=>by cases h)⟩,Nat.le_refl 1⟩
      ·exact hz
     ·split
      ·unfold Bl
       split
       ·rename_i h
        exact⟨⟨(λ_ h=>by cases h),(λ_ h=>by cases h),λy hy=>og (p:=λx:xm=>x.1.length<=600/\x.2.1.length<=600) ⟨V5 h.2.1,Ei _ _⟩ hy,(λ_ h=>by cases h),(λ_ h=>by cases h),(λ_ h=>by cases h)⟩,Nat.le_refl 1⟩
       ·exact hz
      ·split
       ·unfold BA
        split
        ·rename_i h
         cases hd:V8 (gE (w::r))with
         | none=>exact hz
         | some v=>exact⟨⟨(λ_ h=>by cases h),(λ_ h=>by cases h),(λ_ h=>by cases h),λy hy=>og (p:=λx:Field=>x.1.length<=600) (V5 h.2.1) hy,(λ_ h=>by cases h),(λ_ h=>by cases h)⟩,Nat.le_refl 1⟩
        ·exact hz
       ·exact hz
theorem W6:∀ (ls:List zf) (S:Zb) (k:Nat) (S':Zb),gG ls S k=.inr S'->GS S->GS S'/\Ea S'<=Ea S+ls.length
 | [],S,k,S',h,hg=>by
  injection h with h
  subst h
  exact⟨hg,Nat.le_refl _⟩
 | line::r,S,k,S',h,hg=>by
  unfold gG at h
  split at h
  ·obtain⟨a1,a2⟩:=UG S.2.2.1.length line
   have:=W6 r _ _ S' h (z34 hg a1)
   rw[FN]at this
   exact⟨this.1,by have:=this.2; rw[List.length_cons]; omega⟩
  ·cases h
theorem Y6(c:UInt8):∀ s:zf,(bQ c s).length<=s.length+1
 | []=>Nat.le_refl _
 | b::r=>by
  have:=Y6 c r
  unfold bQ
  split
  ·rw[List.length_cons,List.length_cons]; omega
  ·cases h:bQ c r with
   | nil=>simp[MT]
   | cons x y=>rw[h]at this; simp only[MT,List.length_cons]at *; omega
theorem Fo(c:UInt8):∀ (s:zf),∀ l∈bQ c s,l.length<=s.length
 | [],l,h=>by rw[show bQ c []=[[]]from rfl]at h; rw[List.mem_singleton.1 h]; exact Nat.le_refl _
 | b::r,l,h=>by
  have ih:=Fo c r
  unfold bQ at h
  split at h
  ·rcases List.mem_cons.1 h with rfl | h
   ·exact Nat.zero_le _
   ·have:=ih l h; rw[List.length_cons]; omega
  ·cases q:bQ c r with
   | nil=>rw[q]at h; rw[List.mem_singleton.1 (show l∈[[b]]from h)]; simp
   | cons x y =>
    rw[q]at h ih
    rcases List.mem_cons.1 (show l∈(b::x)::y from h)with rfl | h
    ·have:=ih x List.mem_cons_self; rw[List.length_cons,List.length_cons]; omega
    ·have:=ih l (List.mem_cons_of_mem _ h); rw[List.length_cons]; omega
theorem z4V{S:Zb}(h:Ea S<=1000000):SmS S.1 S.2.1 S.2.2.1 S.2.2.2.1 S.2.2.2.2.1 S.2.2.2.2.2:=by
 unfold Ea at h
 exact⟨by omega,by omega,by omega,by omega,by omega,by omega⟩
theorem z0n{α:Type}(l:List α):List.drop (0:Nat) (List.take ((0:Nat)+l.length) l)=l:=by rw[Nat.zero_add,List.take_length,List.drop_zero]
def stL(S:Zb):List Check×List Check×List xe×List xe×List Switch×List Switch×List Param×List Param×List xm×List xm×List Field×List Field:=([],(S.2.2.2.2.2,([],(S.2.2.2.2.1,([],(S.1,([],(S.2.1,([],(S.2.2.1,([],S.2.2.2.1)))))))))))
theorem X1(s:zf)(hF:∀ S,gG (bQ 10 s) vv 0=.inr S->FS (El S)):(bn s).run=some (CH s):=by
 unfold bn CH
 by_cases hs:16384<s.length
 ·rw[if_pos hs,za (decide_eq_true (by omega)),z7]
  rfl
 ·rw[if_neg hs,z8 (decide_eq_false (by omega))]
  have mW:(strings_Split s [10]).run=some (bQ 10 s):=by
   unfold strings_Split
   rw[zb ⟨by omega,rfl⟩,z7]
   rfl
  rw[z6 mW]
  have hln:=Y6 10 s
  have hmm:=Fo 10 s
  generalize bQ 10 s=ls at hln hmm hF ⊢
  have key:∀ (m k:Nat) (S:Zb),k+m=ls.length->Ea S<=k->∃ R,(cQ ls (ls.length:Int) ((k:Int),((),((),stL S)))).run=some R /\
    (match gG (ls.drop k) S k with
     | .inl (n,e)=>∃ Z,R=.inr ((n:Int),(e,(noF,Z)))
     | .inr S'=>R=.inl ((),((),stL S'))):=by
   intro m
   induction m with
   | zero =>
    intro k S hk ht
    have:k=ls.length:=by omega
    subst this
    rw[List.drop_length]
    refine⟨.inl ((),((),stL S)),qR ?_,rfl⟩
    unfold ja stL
    dsimp only
    rw[z8 (gS _)]
    simp only[zp,T.zh,zn,z7]
   | succ m ih =>
    intro k S hk ht
    have h1:k<ls.length:=by omega
    have hd:=List.drop_eq_getElem_cons h1
    obtain⟨D,g1,g2⟩:=Ov ls[k] (by have:=hmm _ (List.getElem_mem h1); omega) S.1 S.2.1 S.2.2.1 S.2.2.2.1 S.2.2.2.2.1 S.2.2.2.2.2 (z4V (by omega))
    rw[hd]
    unfold gG
    by_cases c:(jZ S.2.2.1.length ls[k]).1=0
    ·rw[if_pos c]
     have hD:=g2 c
     subst hD
     obtain⟨a1,a2⟩:=UG S.2.2.1.length ls[k]
     obtain⟨R,r1,r2⟩:=ih (k+1) (Uk S (jZ S.2.2.1.length ls[k]).2) (by omega) (by rw[FN]; omega)
     refine⟨R,?_,r2⟩
     refine(uh (s':=(((k+1:Nat):Int),((),((),stL (Uk S (jZ S.2.2.1.length ls[k]).2))))) ?_).trans r1
     unfold ja stL
     dsimp only
     rw[za (kl h1),zb (qp h1),dq h1]
     simp only[zp,T.zh,zn]
     rw[z6 g1,c]
     unfold ZC
     dsimp only
     rw[z8 (by rfl)]
     simp only[zp,T.zh,zn,z7]
     rw[oy k _ h1 (by omega)]
     rfl
    ·rw[if_neg c]
     refine⟨.inr (((k+1:Nat):Int),((jZ S.2.2.1.length ls[k]).1,(noF,((),stL (Uk S D))))),qR ?_,_,rfl⟩
     ·unfold ja stL
      dsimp only
      rw[za (kl h1),zb (qp h1),dq h1]
      simp only[zp,T.zh,zn]
      rw[z6 g1]
      unfold ZC
      dsimp only
      rw[za (by simpa using c)]
      simp only[zp,T.zh,zn,z7]
      rw[oy k _ h1 (by omega)]
      rfl
  obtain⟨R,r1,r2⟩:=key ls.length 0 vv (by omega) (Nat.le_refl _)
  rw[List.drop_zero]at r2
  have r1:(cQ ls (ls.length:Int) ((0:Int),((),((),(([]:List Check),(([]:List Check),(([]:List xe),(([]:List xe),(([]:List Switch),(([]:List Switch),(([]:List Param),(([]:List Param),(([]:List xm),(([]:List xm),(([]:List Field),([]:List Field)))))))))))))))).run=some R:=r1
  simp only[zp,T.zh,zn]
  rw[z6 r1]
  cases q:gG ls vv 0 with
  | inl p =>
   obtain⟨n,e⟩:=p
   rw[q]at r2
   obtain⟨Z,rfl⟩:=r2
   rfl
  | inr S =>
   rw[q]at r2
   dsimp only at r2
   rw[r2,Sum.elim_inl]
   unfold stL
   dsimp only
   simp only[z0n,zp,T.zh,zn]
   have hI:(kH (S.1,(S.2.1,(S.2.2.1,(S.2.2.2.1,(S.2.2.2.2.1,(S.2.2.2.2.2,()))))))).run=some (fG (El S)):=jQ (El S) (hF S q)
   rw[z6 hI]
   cases fG (El S)with
   | false=>rw[za (by rfl),z7]; rfl
   | true =>
    rw[z8 (by rfl)]
    simp only[zp,T.zh,zn,z7]
    rfl
def sgC(p s:Bool):UInt8:=bif p then(bif s then 47 else 42)else(bif s then 45 else 43)
def sgK(p s:Bool):Int:=bif p then(bif s then 6 else 5)else(bif s then 4 else 3)
def Mn(p:Bool):List Bool->zf
 | []=>[]
 | s::r=>sgC p s::98::Mn p r
def TE(p:Bool):Expr->List Bool->Expr
 | e,[]=>e
 | e,s::r=>TE p (pL (sgK p s) [e,fh [98]]) r
theorem Xh(p:Bool)(l:List Bool):Nz (Mn p l)=true:=by
 cases l with
 | nil=>rfl
 | cons s r=>cases p<;>cases s<;>rfl
theorem K4(c:UInt8)(hc:QI c=true)(d:Nat)(l:Bool)(q:zf)(hq:Nz q=true):SF d l (c::q) (.ok (fh [c]) q l):=by
 have h:=z3E (d:=d) (l:=l) (z4d (z3Z hc):mg (c::q)=c::q) hc
 have hn:zT [c]=true:=by
  unfold zT
  show(true&&(QI c&&(vY c&&true)))=true
  rw[hc,Cx hc]; rfl
 have:=L3 hn l hq
 have e:C4 (c::q) l=.ok (.mk 2 q7 [c] []) q l:=this
 rw[e]at h
 exact h
theorem Fj:∀ (l:List Bool) (e:Expr),RP 0 e (Mn true l) false (.ok (TE true e l) [] false)
 | [],e=>Yd rfl
 | s::r,e=>by
  have hsk:jc [42,47] (Mn true (s::r))=some (sgC true s,98::Mn true r):=by cases s<;>rfl
  refine z0K hsk (K4 98 (by decide) 0 false _ (Xh true r)) ?_
  have:(if sgC true s=42 then(5:Int)else 6)=sgK true s:=by cases s<;>rfl
  rw[this]
  exact Fj r _
theorem PI:∀ (l:List Bool) (e:Expr),RS 0 e (Mn false l) false (.ok (TE false e l) [] false)
 | [],e=>Fb rfl
 | s::r,e=>by
  have hsk:jc [43,45] (Mn false (s::r))=some (sgC false s,98::Mn false r):=by cases s<;>rfl
  have ya:jc [42,47] (Mn false r)=none:=by
   cases r with
   | nil=>rfl
   | cons t r=>cases t<;>rfl
  refine Tj hsk (OW (K4 98 (by decide) 0 false _ (Xh false r)) (Yd ya)) ?_
  have:(if sgC false s=43 then(3:Int)else 4)=sgK false s:=by cases s<;>rfl
  rw[this]
  exact z1R (PI r _)
theorem z1v(c:UInt8)(hc:QI c=true)(d:Nat)(hd:d<32):wK d (fh [c])=true:=by
 refine Rk hd ?_ rfl
 show(true&&(true&&(true&&(QI c&&(vY c&&true)))))=true
 rw[hc,Cx hc]; rfl
theorem NJ(p:Bool):∀ (l:List Bool) (e:Expr) (d:Nat),d+l.length<32->wK (d+l.length) e=true->wK d (TE p e l)=true
 | [],_,_,_,h=>h
 | s::r,e,d,hd,h=>by
  simp only[List.length_cons]at hd h
  refine NJ p r _ d (by omega) (Rk (by omega) ?_ ?_)
  ·cases p<;>cases s<;>rfl
  ·show(wK (d+r.length+1) e&&(wK (d+r.length+1) (fh [98])&&true))=true
   rw[show d+r.length+1=d+(r.length+1) by omega,h,z1v 98 (by decide) _ (by omega)]; rfl
theorem NG(p:Bool):∀ (l:List Bool) (e:Expr),wA (TE p e l)=wA e+2*l.length
 | [],_=>rfl
 | s::r,e=>by
  show wA (TE p _ r)=_
  rw[NG p r,nd2,show wA (fh [98])=1 from rfl,List.length_cons]; omega
theorem CC(p:Bool)(l:List Bool)(hl:l.length<=28):qB (97::Mn p l)=(TE p (fh [97]) l,((0:Int),(0:Int))):=by
 have hs:SS 0 false (97::Mn p l) (.ok (TE p (fh [97]) l) [] false):=by
  cases p with
  | true=>exact z2k (OW (K4 97 (by decide) 0 false _ (Xh true l)) (Fj l _)) (Fb rfl)
  | false =>
   have ya:jc [42,47] (Mn false l)=none:=by
    cases l with
    | nil=>rfl
    | cons t r=>cases t<;>rfl
   exact z2k (OW (K4 97 (by decide) 0 false _ (Xh false l)) (Yd ya)) (z1R (PI l _))
 have hI:Ce (TE p (fh [97]) l)=true:=by
  unfold Ce
  rw[NG,NJ p l (fh [97]) 0 (by omega) (z1v 97 (by decide) _ (by omega)),decide_eq_true (by rw[show wA (fh [97])=1 from rfl]; omega)]
  rfl
 unfold qB
 rw[z3l hs]
 unfold CS p8
 dsimp only
 rw[if_neg (by decide),hI,if_neg (by simp)]
def eO:Expr:=.mk 1 (oU [50]) [] []
theorem Gp(d:Nat)(hd:d<32):wK d eO=true:=by
 have h:uF (.mk 1 (oU [50]) [] [])=true:=by
  unfold uF
  show((((0:Nat):Int)==nP 1)&&(if(1:Int)=1 then jf (oU [50])&&zr [] []else _))=true
  rw[if_pos rfl,Sx]
  rfl
 show(decide (d<32)&&(uF (.mk 1 (oU [50]) [] [])&&uv (d+1) []))=true
 rw[h,decide_eq_true hd]; rfl
theorem MK:Ce eO=true:=by
 unfold Ce
 rw[Gp 0 (by decide)]
 rfl
theorem z0L:prE eO=[50]:=by
 show(qF (norm (oU [50])).1 (nv (norm (oU [50])).2.1) (nv (norm (oU [50])).2.2.1) 0 61).1=[50]
 rw[OJ,Ns]
 show(qF false 2 1 0 61).1=[50]
 unfold qF
 rw[if_pos (by decide)]
 show YA false++CQ (pr 2) 0=[50]
 unfold CQ pr
 rw[if_pos rfl,if_neg (by decide),iN (by decide),show 2 / 10=0 from rfl,cW]
 rfl
theorem z0W:qB [97]=(fh [97],((0:Int),(0:Int))):=CC true [] (by decide)
theorem z0s:qB [50]=(eO,((0:Int),(0:Int))):=by
 have h:iX q7 [50]=.ok eO [] false:=by kernel_rfl
 unfold qB
 rw[h]
 unfold CS p8
 dsimp only
 rw[if_neg (by decide),MK,if_neg (by simp)]
theorem MX:qX [97,61,50]=(fh [97],(eO,((0:Int),(0:Int)))):=by
 have h:yS [97,61,50]=some ([97],0,[50]):=rfl
 unfold qX
 rw[h]
 dsimp only
 rw[z0W,z0s]
 rfl
def knS:zf:=[112,97,103,101,32,112,10,102,105,101,108,100,32,32,97,32,109,117,115,116,10,114,117,108,101,32,119,101,97,107,32,114,58,97,61,50,10]
def knF:Zb:=([],[],[([112],([],()))],[([97],(0,(true,(0,()))))],[([114],(3,([],(fh [97],(eO,())))))],[])
theorem YH:gG (bQ 10 knS) vv 0=.inr knF:=by
 have e:bQ 10 knS=[[112,97,103,101,32,112],[102,105,101,108,100,32,32,97,32,109,117,115,116],[114,117,108,101,32,119,101,97,107,32,114,58,97,61,50],[]]:=by decide +kernel
 have l1:jZ 0 [112,97,103,101,32,112]=(0,[],[],[([112],([],()))],[],[],[]):=rfl
 have l2:jZ 1 [102,105,101,108,100,32,32,97,32,109,117,115,116]=(0,[],[],[],[([97],(0,(true,(0,()))))],[],[]):=rfl
 have l3:jZ 1 [114,117,108,101,32,119,101,97,107,32,114,58,97,61,50]=(0,[],[],[],[],[([114],(3,([],(fh [97],(eO,())))))],[]):=by
  have:jZ 1 [114,117,108,101,32,119,101,97,107,32,114,58,97,61,50]=HM [[114,117,108,101],[119,101,97,107],[114]] [97,61,50]:=rfl
  rw[this]
  unfold HM
  rw[MX]
  rfl
 have l4:jZ 1 []=(0,vv):=rfl
 rw[e]
 unfold gG
 rw[show jZ vv.2.2.1.length [112,97,103,101,32,112]=_ from l1,if_pos rfl]
 unfold gG
 rw[show jZ (Uk vv (([],[],[([112],([],()))],[],[],[]):Zb)).2.2.1.length [102,105,101,108,100,32,32,97,32,109,117,115,116]=_ from l2,if_pos rfl]
 unfold gG
 rw[show jZ (Uk (Uk vv (([],[],[([112],([],()))],[],[],[]):Zb)) (([],[],[],[([97],(0,(true,(0,()))))],[],[]):Zb)).2.2.1.length [114,117,108,101,32,119,101,97,107,32,114,58,97,61,50]=_ from l3,if_pos rfl]
 rfl
theorem Hs{s:zf}(h:s.length<=600){S:Zb}(hl:gG (bQ 10 s) vv 0=.inr S):FS (El S):=by
 obtain⟨g,ht⟩:=W6 _ _ _ _ hl z1L
 have:=Y6 10 s
 have h0:Ea vv=0:=rfl
 exact⟨by rw[h0]at ht; unfold Ea at ht; show S.1.length+S.2.1.length+S.2.2.1.length+S.2.2.2.1.length+S.2.2.2.2.1.length+S.2.2.2.2.2.length<=601; omega,g.s,g.p,g.g,g.d,g.r,g.c⟩
def knT:zf:=[112,97,103,101,32,112,10,102,105,101,108,100,32,97,32,109,117,115,116,10,114,117,108,101,32,119,101,97,107,32,114,32,58,32,97,32,61,32,50,10]
theorem DQ:frS (El knF)=knT:=by
 have h1:Ma (fh [97]) [61] eO=[32,58,32,97,32,61,32,50,10]:=by
  unfold Ma
  rw[z0L]
  rfl
 have h2:B5 ([114],(3,([],(fh [97],(eO,())))))=[114,117,108,101,32,119,101,97,107,32,114,32,58,32,97,32,61,32,50,10]:=by
  unfold B5
  dsimp only
  rw[h1]
  rfl
 show([]++[]++(List.range 1).flatMap (Bt (El knF))++(B5 ([114],(3,([],(fh [97],(eO,())))))++[]))=_
 rw[h2]
 rfl
theorem PM:fG (El knF)=true:=by
 have h6:a6 (El knF)=true:=by
  show(!(rV ([114],(3,([],(fh [97],(eO,())))))||false))=true
  have:rV ([114],(3,([],(fh [97],(eO,())))))=false:=by
   show(!(zT [114])||(!(ir [])||(false||(false||(!(wK 0 (fh [97])) || !(wK 0 eO))))))=false
   rw[Gp 0 (by decide)]
   rfl
  rw[this]; rfl
 unfold fG
 rw[h6,DQ]
 rfl
theorem VC:dz.run=some true:=by
 have hp:(bn knS).run=some (El knF,((0:Int),(0:Int))):=by
  rw[X1 knS (λS h=>Hs (by decide) h)]
  unfold CH
  rw[if_neg (by decide),YH]
  dsimp only
  rw[PM]
  rfl
 have hF:FS (El knF):=Hs (s:=knS) (by decide) YH
 have hp2:(vQ (El knF)).run=some knT:=by
  unfold vQ
  rw[z6 (jQ _ hF),PM,z8 (by rfl)]
  have h:=PM
  unfold fG at h
  simp only[Bool.and_eq_true]at h
  rw[z6 (bS _ (YI hF h.2.2.2.1 h.2.2.2.2.1 h.2.2.2.2.2.1)),z7,DQ]
 unfold dz
 rw[show([112,97,103,101,32,112,10,102,105,101,108,100,32,32,97,32,109,117,115,116,10,114,117,108,101,32,119,101,97,107,32,114,58,97,61,50,10]:zf)=knS from rfl,z6 hp]
 dsimp only
 rw[za (by rfl),za (by rfl),z6 hp2,z7]
 rfl
def kN{α:Type}(s:α->Nat)(l:List α):Nat:=(l.map s).sum
theorem ob{α:Type}{s:α->Nat}{l:List α}{x:α}(h:x∈l):s x<=kN s l:=by
 unfold kN
 induction l with
 | nil=>cases h
 | cons y r ih =>
  rw[List.map_cons,List.sum_cons]
  rcases List.mem_cons.1 h with rfl | h
  ·omega
  ·have:=ih h; omega
theorem fQ{α:Type}(l:List α)(d:α)(s:α->Nat){r:Int×Int->T ((Int×Int)⊕Int)}(hl:l.length<=1048576)
  (h1:∀ (n:Int) (k:Nat) (x:α),k<l.length->x∈l->nth l (k:Int) d=x->0<=n->n<=600->∃ n',(r (n,(k:Int))).run=some (.inl (n',zF ((k:Int)+1))) /\ -10000000000<=n'/\n'<=n/\(0<=n'->n'+s x<=n))
  (h2:∀ (n:Int) (k:Nat),¬ (k<l.length/\0<=n)->(r (n,(k:Int))).run=some (.inr n)) (n:Int) (hn : -10000000000<=n) (XY:n<=600) :
  ∃ n',(T.loop r (n,0)).run=some n' /\ -10000000000<=n'/\n'<=600/\(0<=n'->n'+kN s l<=n):=by
 refine T.qE (λz:Int×Int=>∃ k:Nat,z.2=(k:Int)/\k<=l.length /\ -10000000000<=z.1/\z.1<=600/\(0<=z.1->z.1+kN s (l.take k)<=n)) (λz=>l.length-z.2.toNat) _ (λz hz => ?_) ⟨0,rfl,by omega,hn,XY,λ_=>by simp[kN]⟩
 obtain⟨m,i⟩:=z
 obtain⟨k,rfl,hk,hm,B8,hP⟩:=hz
 dsimp only at hm B8 hP ⊢
 by_cases c:k<l.length/\0<=m
 ·left
  obtain⟨n',g1,g2,g3,g4⟩:=h1 m k l[k] c.1 (List.getElem_mem c.1) (dq c.1 d) c.2 B8
  rw[oy k _ c.1 (by omega)]at g1
  refine⟨_,g1,⟨k+1,rfl,c.1,g2,by dsimp only; omega,λh0 => ?_⟩,by dsimp only; omega⟩
  have:=hP c.2
  have:=g4 h0
  rw[List.take_succ_eq_append_getElem c.1]
  unfold kN at *
  rw[List.map_append,List.sum_append]
  simp only[List.map_cons,List.map_nil,List.sum_cons,List.sum_nil]
  omega
 ·right
  refine⟨m,h2 m k c,hm,B8,λh0 => ?_⟩
  have:k=l.length:=by
   by_cases q:k<l.length
   ·exact absurd ⟨q,h0⟩ c
   ·omega
  have:=hP h0
  subst k
  rwa [List.take_length]at this
theorem eQ(e:Expr)(left:Int)(h0 : -100000000000<=left)(h1:left<=600)(hb:bkE e<=1000000000):(jz e left).run=some (wtE e left):=by
 unfold jz
 refine iY (λx:Expr×Int => -100000000000<=x.2/\x.2<=600/\bkE x.1<=1000000000) (λx=>bkE x.1) (λx=>wtE x.1 x.2) (λx hx g hg => ?_) (x:=(e,left)) ⟨h0,h1,hb⟩
 obtain⟨e,left⟩:=x
 obtain⟨h0,h1,hx⟩:=hx
 simp only at hx hg h0 h1
 have hk:=ZE e
 have DY:=HR e.kids
 have loop:∀ acc:Int,-1000000000000<=acc->acc<=600->(nA (λy0 y1=>g (y0,y1)) e (acc,0)).run=some (wtEs e.kids acc):=by
  intro acc a1 a2
  refine Je e.kids (zj .expr) (λb i=>(b,i)) (λb r=>b<=600/\∀ x∈r,x∈e.kids) (λr b=>wtEs r b) ?_ ?_ ⟨a2,λx hx=>hx⟩
  ·rintro b x xs i hi0 hi hx ⟨b1,b2⟩
   by_cases Xb:0<=b
   ·have hm:=HW (b2 x List.mem_cons_self)
    have hr:=hg (x,b) ⟨by simp only; omega,b1,by simp only; omega⟩ (by simp only; omega)
    simp only at hr
    have:=(ZL x b).1
    refine .inl ⟨wtE x b,?_,⟨by omega,λy hy=>b2 y (List.mem_cons_of_mem _ hy)⟩,?_⟩
    ·simp(disch:=omega) [jb,hi,hx,Xb,hr]
    ·simp[wtEs,Xb]
   ·right
    have hw:wtEs (x::xs) b=b:=Rj _ _ Xb
    simp[jb,hi,Xb,hw]
  ·rintro b _
   simp[jb,wtEs]
 unfold hJ
 cases e with | mk k n s kids =>
 simp only[Expr.kids,Expr.name,Expr.num,bkE]at *
 have hL:=loop (left-3-s.length-8*n.2.1.length-8*n.2.2.1.length) (by omega) (by omega)
 simp(disch:=omega) [zu,hL,wtE]
def wPa(x:Param):Nat:=8*x.2.1.2.1.length+8*x.2.1.2.2.1.length+x.1.length
def wSw(x:Switch):Nat:=x.1.length
def Bm(x:Field):Nat:=x.1.length
def R9(x:xm):Nat:=x.1.length+x.2.1.length
def wRu(x:xe):Nat:=x.1.length+x.2.2.1.length+szE x.2.2.2.1+szE x.2.2.2.2.1
def RQ(x:Check):Nat:=x.1.length+szE x.2.2.2.1+szE x.2.2.2.2.1
def nF(f:Form):Nat:=f.1.length+f.2.1.length+f.2.2.1.length+f.2.2.2.1.length+f.2.2.2.2.1.length+f.2.2.2.2.2.1.length
def wF(f:Form):Nat:=20*nF f+kN wPa f.2.1+kN wSw f.1+kN R9 f.2.2.1+kN Bm f.2.2.2.1+kN wRu f.2.2.2.2.1+kN RQ f.2.2.2.2.2.1
theorem BM(f:Form)(h:FB f):∃ b,(du f).run=some b/\(b=false->wF f<=600):=by
 obtain⟨hl1,dJ,hl3,hl4,hl5,hl6,hs,hp,hg,hd,hr,hc⟩:=h
 obtain⟨n1,r1,a1,b1,P1⟩:=fQ f.2.1 (zj zP) wPa (r:=kB f) dJ (λn k x hk hx hn h0 h6=>by
  obtain⟨q1,q2,q3,_⟩:=hp x hx
  refine⟨n-8*x.2.1.2.1.length-8*x.2.1.2.2.1.length-x.1.length,?_,by omega,by omega,λ_=>by unfold wPa; omega⟩
  simp(disch:=omega) [kB,hk,h0,hn,zu])
  (λn k hk=>by simp[kB,hk]) (600-20*(nF f:Int)) (by unfold nF; omega) (by omega)
 obtain⟨n2,r2,a2,b2,P2⟩:=fQ f.1 (zj zJ) wSw (r:=kF f) hl1 (λn k x hk hx hn h0 h6=>by
  have q1:=hs x hx
  refine⟨n-x.1.length,?_,by omega,by omega,λ_=>by unfold wSw; omega⟩
  simp(disch:=omega) [kF,hk,h0,hn,zu])
  (λn k hk=>by simp[kF,hk]) n1 a1 b1
 obtain⟨n3,r3,a3,b3,P3⟩:=fQ f.2.2.1 (zj zV) R9 (r:=ki f) hl3 (λn k x hk hx hn h0 h6=>by
  obtain⟨q1,q2⟩:=hg x hx
  refine⟨n-x.1.length-x.2.1.length,?_,by omega,by omega,λ_=>by unfold R9; omega⟩
  simp(disch:=omega) [ki,hk,h0,hn,zu])
  (λn k hk=>by simp[ki,hk]) n2 a2 b2
 obtain⟨n4,r4,a4,b4,P4⟩:=fQ f.2.2.2.1 (zj zL) Bm (r:=ko f) hl4 (λn k x hk hx hn h0 h6=>by
  have q1:=hd x hx
  refine⟨n-x.1.length,?_,by omega,by omega,λ_=>by unfold Bm; omega⟩
  simp(disch:=omega) [ko,hk,h0,hn,zu])
  (λn k hk=>by simp[ko,hk]) n3 a3 b3
 obtain⟨n5,r5,a5,b5,P5⟩:=fQ f.2.2.2.2.1 (zj qf) wRu (r:=kI f) hl5 (λn k x hk hx hn h0 h6=>by
  obtain⟨q1,q2,q3,q4⟩:=hr x hx
  have m1:=ZL x.2.2.2.1 (n-x.1.length-x.2.2.1.length)
  have m2:=ZL x.2.2.2.2.1 (wtE x.2.2.2.1 (n-x.1.length-x.2.2.1.length))
  have s1:=XN x.2.2.2.1 (n-x.1.length-x.2.2.1.length)
  have s2:=XN x.2.2.2.2.1 (wtE x.2.2.2.1 (n-x.1.length-x.2.2.1.length))
  have w1:=eQ x.2.2.2.1 (n-x.1.length-x.2.2.1.length) (by omega) (by omega) (by omega)
  have w2:=eQ x.2.2.2.2.1 (wtE x.2.2.2.1 (n-x.1.length-x.2.2.1.length)) (by omega) (by omega) (by omega)
  refine⟨_,?_,by omega,Int.le_trans m2.1 (by omega),λh=>by have:=s2 h; have:=s1 (by omega); unfold wRu; omega⟩
  simp(disch:=omega) [kI,hk,h0,hn,zu,w1,w2])
  (λn k hk=>by simp[kI,hk]) n4 a4 b4
 obtain⟨n6,r6,a6,b6,P6⟩:=fQ f.2.2.2.2.2.1 (zj zX) RQ (r:=kC f) hl6 (λn k x hk hx hn h0 h6=>by
  obtain⟨q1,q3,q4⟩:=hc x hx
  have m1:=ZL x.2.2.2.1 (n-x.1.length)
  have m2:=ZL x.2.2.2.2.1 (wtE x.2.2.2.1 (n-x.1.length))
  have s1:=XN x.2.2.2.1 (n-x.1.length)
  have s2:=XN x.2.2.2.2.1 (wtE x.2.2.2.1 (n-x.1.length))
  have w1:=eQ x.2.2.2.1 (n-x.1.length) (by omega) (by omega) (by omega)
  have w2:=eQ x.2.2.2.2.1 (wtE x.2.2.2.1 (n-x.1.length)) (by omega) (by omega) (by omega)
  refine⟨_,?_,by omega,Int.le_trans m2.1 (by omega),λh=>by have:=s2 h; have:=s1 (by omega); unfold RQ; omega⟩
  simp(disch:=omega) [kC,hk,h0,hn,zu,w1,w2])
  (λn k hk=>by simp[kC,hk]) n5 a5 b5
 refine⟨decide (n6<0),?_,λhb => ?_⟩
 ·unfold du
  have e0:∀ a b c d e g:Int,0<=a->a<=1048576->0<=b->b<=1048576->0<=c->c<=1048576->0<=d->d<=1048576->0<=e->e<=1048576->0<=g->g<=1048576->zF ((600:Int)-zF (20*zF (zF (zF (zF (zF (a+b)+c)+d)+e)+g)))=600-20*(a+b+c+d+e+g):=by
   intros; simp(disch:=omega) only[zu]
  rw[e0 _ _ _ _ _ _ (by omega) (by omega) (by omega) (by omega) (by omega) (by omega) (by omega) (by omega) (by omega) (by omega) (by omega) (by omega)]
  have r1:(pn f (600-20*((f.1.length:Int)+f.2.1.length+f.2.2.1.length+f.2.2.2.1.length+f.2.2.2.2.1.length+f.2.2.2.2.2.1.length),0)).run=some n1:=by
   rw[<- r1]; unfold nF; congr
  have r2:(pU f (n1,0)).run=some n2:=r2
  have r3:(pW f (n2,0)).run=some n3:=r3
  have r4:(pB f (n3,0)).run=some n4:=r4
  have r5:(pQ f (n4,0)).run=some n5:=r5
  have r6:(pC f (n5,0)).run=some n6:=r6
  simp[r1,r2,r3,r4,r5,r6]
 ·have:=of_decide_eq_false hb
  unfold wF
  omega
theorem z5P{f:Form}(h:wF f<=600):FL f:=by
 have a1:∀ x∈f.1,x.1.length<=kN wSw f.1:=λx hx=>ob (s:=wSw) hx
 have a2:∀ x∈f.2.1,8*x.2.1.2.1.length+8*x.2.1.2.2.1.length+x.1.length<=kN wPa f.2.1:=λx hx=>ob (s:=wPa) hx
 have a3:∀ x∈f.2.2.1,x.1.length+x.2.1.length<=kN R9 f.2.2.1:=λx hx=>ob (s:=R9) hx
 have a4:∀ x∈f.2.2.2.1,x.1.length<=kN Bm f.2.2.2.1:=λx hx=>ob (s:=Bm) hx
 have a5:∀ x∈f.2.2.2.2.1,x.1.length+x.2.2.1.length+szE x.2.2.2.1+szE x.2.2.2.2.1<=kN wRu f.2.2.2.2.1:=λx hx=>ob (s:=wRu) hx
 have a6:∀ x∈f.2.2.2.2.2.1,x.1.length+szE x.2.2.2.1+szE x.2.2.2.2.1<=kN RQ f.2.2.2.2.2.1:=λx hx=>ob (s:=RQ) hx
 unfold wF nF at h
 refine⟨by omega,λx hx => ?_,λx hx => ?_,λx hx => ?_,λx hx => ?_,λx hx => ?_,λx hx => ?_⟩
 ·have:=a1 x hx; omega
 ·have:=a2 x hx; omega
 ·have:=a3 x hx; omega
 ·have:=a4 x hx; omega
 ·have:=a5 x hx; omega
 ·have:=a6 x hx; omega
theorem Te(f:Form)(hw:wf qg f)(hb:bk qg f<=1048576):∃ b,(du f).run=some b/\(b=false->FS f/\wF f<=600):=by
 obtain⟨b,hr,hf⟩:=BM f (z2f hw hb)
 exact⟨b,hr,λh=>⟨z6A hw (z2f hw hb) (z5P (hf h)),hf h⟩⟩
def prF(f:Form):zf:=if fG f=true then frS f else[]
theorem TA{f:Form}(hF:FS f)(h:fG f=true):EW f:=by
 unfold fG at h
 simp only[Bool.and_eq_true]at h
 exact YI hF h.2.2.2.1 h.2.2.2.2.1 h.2.2.2.2.2.1
theorem QQ(f:Form)(h:FS f):(vQ f).run=some (prF f):=by
 unfold vQ prF
 rw[z6 (jQ f h)]
 cases c:fG f with
 | false=>rfl
 | true=>rw[z8 (by rfl),z6 (bS f (TA h c))]; rfl
theorem D7{n:Rat}(h:ye n)(hb:jf n=true):(qF (norm n).1 (nv (norm n).2.1) (nv (norm n).2.2.1) 0 61).1.length<=225:=by
 obtain⟨h1,h2,h3,h4⟩:=ZI hb
 have e:=ot h h1
 have hd:=mR n.1 (nv n.2.1) (nv n.2.2.1)
 have hd:nv (norm n).2.2.1≠0:=hd
 rcases hx:qF (norm n).1 (nv (norm n).2.1) (nv (norm n).2.2.1) 0 61 with⟨s,b⟩
 rw[hx]at h4
 cases h4
 obtain⟨j,_,g2,_,rfl⟩:=Zy _ _ _ hd 61 0 s hx
 unfold jo at h3
 rw[Bool.or_eq_false_iff,decide_eq_false_iff_not]at h3
 have l1:(zt (nv (norm n).2.1)).length<=16:=by have:=zC (en (k:=100) (by omega) h).1; omega
 have l2:=Hb _ 16 l1
 have l3:nv (norm n).2.1*10 ^ j / nv (norm n).2.2.1<10 ^ (160+j):=by
  refine Nat.lt_of_le_of_lt (Nat.div_le_self _ _) ?_
  rw[Nat.pow_add]
  exact Nat.mul_lt_mul_of_pos_right l2 (Nat.pow_pos (by omega))
 have l4:=z2j _ _ (by omega) l3
 have l7:(YA (norm n).1).length<=1:=by unfold YA; split<;>simp
 dsimp only
 rw[List.length_append]
 by_cases hj:j=0
 ·subst hj
  unfold CQ
  rw[if_pos rfl]
  omega
 ·obtain⟨w,p,e,_,_,_,hp,_,hw⟩:=UZ (pr (nv (norm n).2.1*10 ^ j / nv (norm n).2.2.1)) j hj (I1 _).1
  rw[e,List.length_append,List.length_cons]
  omega
theorem MY:∀ (m:Nat) (e:Expr) (d:Nat),wA e<=m->wK d e=true->allOk e->(prE e).length<=25*szE e:=by
 intro m
 induction m with
 | zero=>intro e d hm; cases e; unfold wA at hm; omega
 | succ m ih =>
  intro e d hm ho ha
  cases e with | mk k n s l =>
  obtain⟨hk,hl⟩:=nj ho
  obtain⟨hn,fc⟩:=ha
  have Dy:wA (.mk k n s l)=1+wR l:=rfl
  have uo:szE (.mk k n s l)=3+s.length+8*n.2.1.length+8*n.2.2.1.length+szEs l:=rfl
  rw[Dy]at hm
  rw[uo]
  have NV:(decide (d<32)&&(uF (.mk k n s l)&&uv (d+1) l))=true:=ho
  show(if k=1 then(qF (norm n).1 (nv (norm n).2.1) (nv (norm n).2.2.1) 0 61).1 else if k=2 then s else dP k (prL l)).length<=_
  by_cases h1:k=1
  ·subst h1
   simp only[Bool.and_eq_true,uF,Expr.kind,Expr.num,if_true]at NV
   have hb:=NV.2.1.2.1
   have:=D7 hn hb
   obtain⟨q1,_⟩:=ZI hb
   have e:=ot hn q1
   have hd:=mR n.1 (nv n.2.1) (nv n.2.2.1)
   have hd:nv (norm n).2.2.1≠0:=hd
   have:n.2.2.1.length≠0:=λh=>by rw[e,List.eq_nil_of_length_eq_zero h]at hd; exact hd rfl
   rw[if_pos rfl]; omega
  ·rw[if_neg h1]
   by_cases h2:k=2
   ·rw[if_pos h2]; omega
   ·rw[if_neg h2]
    match l,hl,fc,hm with
    | [],_,_,_=>show(dP k []).length<=_; unfold dP; simp
    | [a],hl,fc,hm =>
     have Sl:wK (d+1) a=true:=by
      have:(wK (d+1) a&&uv (d+1) [])=true:=hl
      simp only[Bool.and_eq_true]at this; exact this.1
     have:=ih a (d+1) (by have:wR [a]=wA a+0:=rfl; omega) Sl fc.1
     have e1:szEs [a]=szE a+0:=rfl
     have hp:=uB (decide (q9 a.kind<3)) (prE a)
     show([45]++dI (decide (q9 a.kind<3)) (prE a)).length<=_
     rw[List.length_append,List.length_singleton,e1]; omega
    | [a,b],hl,fc,hm =>
     have WA:wK (d+1) a=true/\wK (d+1) b=true:=by
      have:(wK (d+1) a&&(wK (d+1) b&&uv (d+1) []))=true:=hl
      simp only[Bool.and_eq_true]at this; exact⟨this.1,this.2.1⟩
     have e0:wR [a,b]=wA a+(wA b+0):=rfl
     have h3:=ih a (d+1) (by omega) WA.1 fc.1
     have h4:=ih b (d+1) (by omega) WA.2 fc.2.1
     have e1:szEs [a,b]=szE a+(szE b+0):=rfl
     have hp:=uB (decide (q9 a.kind<q9 k)) (prE a)
     have hq:=uB (decide (q9 b.kind<q9 k+1)) (prE b)
     have hm':=Zn k
     show(dI (decide (q9 a.kind<q9 k)) (prE a)++JC k++dI (decide (q9 b.kind<q9 k+1)) (prE b)).length<=_
     rw[List.length_append,List.length_append,e1]; omega
    | a::b::c::r,_,_,_=>show(dP k _).length<=_; unfold prL prL prL dP; simp
theorem Sv{e:Expr}(h:wK 0 e=true)(ha:allOk e):(prE e).length<=25*szE e:=MY (wA e) e 0 (Nat.le_refl _) h ha
theorem Vr{α:Type}(f:α->zf)(s:α->Nat)(l:List α)(h:∀ x∈l,(f x).length<=25*(20+s x)):(l.flatMap f).length<=25*(20*l.length+kN s l):=by
 unfold kN
 induction l with
 | nil=>simp
 | cons x r ih =>
  have h1:=h x List.mem_cons_self
  have h2:=ih λy hy=>h y (List.mem_cons_of_mem _ hy)
  rw[List.flatMap_cons,List.length_append,List.map_cons,List.sum_cons,List.length_cons]
  omega
theorem CT{α:Type}{s t:α->Nat}{l:List α}(h:∀ x∈l,s x<=t x):kN s l<=kN t l:=by
 unfold kN
 induction l with
 | nil=>simp
 | cons x r ih =>
  have:=h x List.mem_cons_self
  have:=ih λy hy=>h y (List.mem_cons_of_mem _ hy)
  rw[List.map_cons,List.map_cons,List.sum_cons,List.sum_cons]; omega
theorem Yn{α:Type}(s t:α->Nat)(l:List α):kN (λx=>s x+t x) l=kN s l+kN t l:=by
 unfold kN
 induction l with
 | nil=>rfl
 | cons x r ih=>rw[List.map_cons,List.map_cons,List.map_cons,List.sum_cons,List.sum_cons,List.sum_cons,ih]; omega
theorem JA{α:Type}(c:Nat)(l:List α):kN (λ_:α=>c) l=c*l.length:=by
 unfold kN
 induction l with
 | nil=>rfl
 | cons x r ih=>rw[List.map_cons,List.sum_cons,ih,List.length_cons,Nat.mul_add]; omega
theorem EP{α:Type}(c:Nat)(s:α->Nat)(l:List α):kN (λx=>c*s x) l=c*kN s l:=by
 unfold kN
 induction l with
 | nil=>rfl
 | cons x r ih=>rw[List.map_cons,List.map_cons,List.sum_cons,List.sum_cons,ih,Nat.mul_add]
theorem z4A{α:Type}(s:α->Nat)(l:List α)(d:α):kN (λi:Nat=>s (nth l (i:Int) d)) (List.range l.length)=kN s l:=by
 unfold kN
 congr 1
 apply List.ext_getElem<;>simp
 intro i h
 simp[nth,h]
theorem Eg{α:Type}(p:α->Int)(w:α->Nat)(l:List α)(n:Int):kN (λx=>if 0<=p x/\p x<n then 25*(20+w x)else 0) l<=25*(20*l.length+kN w l):=by
 refine Nat.le_trans (CT (t:=λx=>500+25*w x) λx _=>by split<;>omega) ?_
 rw[Yn (λ_=>500) λx=>25*w x,JA,EP]
 omega
theorem D6{α:Type}(f:α->zf)(l:List α):(l.flatMap f).length=kN (λx=>(f x).length) l:=by
 unfold kN
 induction l with
 | nil=>rfl
 | cons x r ih=>rw[List.flatMap_cons,List.length_append,List.map_cons,List.sum_cons,ih]
theorem Gn{α:Type}(p:α->Int)(c:α->Nat)(l:List α)(g:Nat->Nat)(q:Nat->α->Nat)(hq:∀ i x,x∈l->q i x<=if p x=(i:Int)then c x else 0) :
  ∀ n,kN (λi=>g i+kN (q i) l) (List.range n)<=kN g (List.range n)+kN (λx=>if 0<=p x/\p x<(n:Int)then c x else 0) l:=by
 intro n
 induction n with
 | zero=>simp[kN]
 | succ n ih =>
  have e:∀ h:Nat->Nat,kN h (List.range (n+1))=kN h (List.range n)+h n:=λh=>by unfold kN; rw[List.range_succ,List.map_append,List.sum_append]; simp
  rw[e,e]
  have:=CT (s:=λx=>(if 0<=p x/\p x<(n:Int)then c x else 0)+q n x) (t:=λx=>if 0<=p x/\p x<((n+1:Nat):Int)then c x else 0) (l:=l) λx hx=>by
   have:=hq n x hx
   by_cases h1:p x=(n:Int)
   ·rw[if_pos h1]at this; rw[if_neg (by omega),if_pos (by omega)]; omega
   ·rw[if_neg h1]at this
    by_cases h2:0<=p x/\p x<(n:Int)
    ·rw[if_pos h2,if_pos (by omega)]; omega
    ·rw[if_neg h2]; omega
  rw[Yn]at this
  omega
theorem z4L(x:Param)(h:wG 100 x.2.1):(DA x).length<=25*(20+wPa x):=by
 obtain⟨q1,q2,q3,q4⟩:=en (k:=x.2.1.2.1.length+x.2.1.2.2.1.length+1) (by omega) (a:=x.2.1) ⟨h.1,h.2.1,by omega,by omega⟩
 have p1:=Ew (nv (norm x.2.1).2.1) _ (by omega) (Nat.le_trans (zC q1) q3)
 have p2:=Ew (nv (norm x.2.1).2.2.1) _ (by omega) (Nat.le_trans (zC q2) q4)
 have l7:(YA (norm x.2.1).1).length<=1:=by unfold YA; split<;>simp
 unfold DA wPa cZ
 split<;>simp only[List.length_append,List.length_cons,List.length_nil]<;>omega
theorem OK{n:Int}(h:0<n)(h9:n<=9):(fj n).length=1:=by
 rw[<- VA n (by omega) h9]; rfl
theorem z4D{f:Form}(h:EW f):(frS f).length<=25*wF f:=by
 have e1:=Vr DZ wSw f.1 λx hx=>by unfold DZ wSw; cases x.2.1<;>simp<;>omega
 have e2:=Vr DA wPa f.2.1 λx hx=>z4L x (h.p x hx).2
 have e5:=Vr B5 wRu f.2.2.2.2.1 λx hx=>by
  obtain⟨_,_,a,b⟩:=h.r x hx
  obtain⟨_,_,c,d⟩:=h.r2 x hx
  have:=Sv c a.2.2
  have:=Sv d b.2.2
  have:=eL x.2.2.1
  have:=tZ x.2.1
  unfold B5 Ma wRu
  simp only[List.length_append,List.length_cons,List.length_nil]
  omega
 have e3:((List.range f.2.2.1.length).flatMap (Bt f)).length<=25*(20*f.2.2.1.length+kN R9 f.2.2.1)+25*(20*f.2.2.2.1.length+kN Bm f.2.2.2.1)+25*(20*f.2.2.2.2.2.1.length+kN RQ f.2.2.2.2.2.1):=by
  have k1:=Gn (λx:Field=>x.2.1) (λx=>25*(20+Bm x)) f.2.2.2.1 (λi=>(PC (nth f.2.2.1 (i:Int) (zj zV))).length) (λi x=>(Bp i x).length) (λi x hx=>by
   unfold Bp
   by_cases c:x.2.1=(i:Int)
   ·rw[if_pos (beq_iff_eq.2 c),if_pos c]
    unfold fdS fhS Bm
    have:=(h.d2 x hx).2
    split
    ·rename_i c2
     have:=OK c2 (by omega)
     cases x.2.2.1<;>simp<;>omega
    ·cases x.2.2.1<;>simp<;>omega
   ·rw[if_neg (by simpa using c)]; simp) f.2.2.1.length
  have k2:=Gn (λx:Check=>x.2.1) (λx=>25*(20+RQ x)) f.2.2.2.2.2.1 (λi=>(PC (nth f.2.2.1 (i:Int) (zj zV))).length+kN (λx=>(Bp i x).length) f.2.2.2.1) (λi x=>(LW i x).length) (λi x hx=>by
   unfold LW
   by_cases c:x.2.1=(i:Int)
   ·rw[if_pos (beq_iff_eq.2 c),if_pos c]
    obtain⟨_,a,b⟩:=h.c x hx
    obtain⟨_,_,d,e⟩:=h.c2 x hx
    have:=Sv d a.2.2
    have:=Sv e b.2.2
    have:=nK x.2.2.1
    unfold ckS Ma RQ
    simp only[List.length_append,List.length_cons,List.length_nil]
    omega
   ·rw[if_neg (by simpa using c)]; simp) f.2.2.1.length
  have m1:=Eg (λx:Field=>x.2.1) Bm f.2.2.2.1 (f.2.2.1.length:Nat)
  have m2:=Eg (λx:Check=>x.2.1) RQ f.2.2.2.2.2.1 (f.2.2.1.length:Nat)
  have m3:kN (λi:Nat=>(PC (nth f.2.2.1 (i:Int) (zj zV))).length) (List.range f.2.2.1.length)<=25*(20*f.2.2.1.length+kN R9 f.2.2.1):=by
   rw[z4A (λx:xm=>(PC x).length)]
   refine Nat.le_trans (CT (t:=λx=>500+25*R9 x) λx _ => ?_) ?_
   ·have:=eL x.2.1
    unfold PC R9
    simp only[List.length_append,List.length_cons,List.length_nil]
    omega
   ·rw[Yn (λ_=>500) λx=>25*R9 x,JA,EP]; omega
  rw[D6]
  have e:(λi=>(Bt f i).length)=λi:Nat=>(PC (nth f.2.2.1 (i:Int) (zj zV))).length+kN (λx=>(Bp i x).length) f.2.2.2.1+kN (λx=>(LW i x).length) f.2.2.2.2.2.1:=by
   funext i
   unfold Bt
   rw[List.length_append,List.length_append,D6,D6]
  rw[e]
  omega
 unfold wF nF frS
 rw[List.length_append,List.length_append,List.length_append]
 omega
theorem EO(x:Int)(c:Nat)(hc:c<9223372036854775808):0<=fa .i64 x (c:Int)/\fa .i64 x (c:Int)<=(c:Int):=by
 have e:fa .i64 x (c:Int)=zF (((BitVec.ofInt 64 x &&& BitVec.ofInt 64 (c:Int)).toNat:Nat):Int):=rfl
 have h:(BitVec.ofInt 64 x &&& BitVec.ofInt 64 (c:Int)).toNat<=c:=by
  rw[BitVec.toNat_and]
  refine Nat.le_trans Nat.and_le_right ?_
  rw[BitVec.toNat_ofInt,show((c:Int) % ((2 ^ 64:Nat):Int)).toNat=c by omega]
  omega
 rw[e,zu (by omega) (by omega)]
 omega
theorem GB{α:Type}(bad:Int->α->Bool)(nx:α->Int)(y:α)(q:Bool):∀ (l:List α) (k:Nat) (at_:Int) (hk:k<l.length),nx y=nx l[k]->(∀ b,bad b l[k]=false->bad b y=q)->dQ bad nx at_ l=true->dQ bad nx at_ (l.set k y) = !q
 | x::r,0,at_,_,hn,hq,h=>by
  rw[kU,Bool.and_eq_true]at h
  rw[List.set_cons_zero,kU,hq at_ (by simpa using h.1),hn]
  show(!q&&dQ bad nx (nx x) r) = !q
  rw[h.2,Bool.and_true]
 | x::r,k+1,at_,hk,hn,hq,h=>by
  rw[kU,Bool.and_eq_true]at h
  rw[List.set_cons_succ,kU,h.1,Bool.true_and]
  exact GB bad nx y q r k (nx x) (Nat.lt_of_succ_lt_succ hk) hn hq h.2
theorem Hn{α:Type}(bad:Int->α->Bool)(nx:α->Int)(y:α)(hy:∀ b,bad b y=true):∀ (l:List α) (k:Nat) (at_:Int),k<l.length->dQ bad nx at_ (l.set k y)=false
 | x::r,0,at_,_=>by rw[List.set_cons_zero,kU,hy]; rfl
 | x::r,k+1,at_,hk=>by
  rw[List.set_cons_succ,kU,Hn bad nx y hy r k (nx x) (Nat.lt_of_succ_lt_succ hk),Bool.and_false]
abbrev U6(f:Form)(l:List Field):Form:=(f.1,(f.2.1,(f.2.2.1,(l,(f.2.2.2.2.1,(f.2.2.2.2.2.1,()))))))
theorem Dd{f:Form}(h:FS f)(k:Nat)(hk:k<f.2.2.2.1.length)(y:Field)(hy:y.1=f.2.2.2.1[k].1):FS (U6 f (f.2.2.2.1.set k y)):=by
 refine⟨?_,h.s,h.p,h.g,λx hx => ?_,h.r,h.c⟩
 ·have:=h.n
  show f.1.length+f.2.1.length+f.2.2.1.length+(f.2.2.2.1.set k y).length+_+_<=601
  rw[List.length_set]; exact this
 ·rcases List.mem_or_eq_of_mem_set hx with hx | rfl
  ·exact h.d x hx
  ·rw[hy]; exact h.d _ (List.getElem_mem hk)
theorem wf_set{f:Form}(k:Nat)(hk:k<f.2.2.2.1.length)(y:Field)(hy:y.1=f.2.2.2.1[k].1):wF (U6 f (f.2.2.2.1.set k y))=wF f:=by
 have e:kN Bm (f.2.2.2.1.set k y)=kN Bm f.2.2.2.1:=by
  unfold kN
  rw[List.map_set,show Bm y=Bm f.2.2.2.1[k] by unfold Bm; rw[hy]]
  congr 1
  rw[<- List.getElem_map Bm (h:=by simpa using hk)]
  exact List.set_getElem_self _
 show 20*(f.1.length+f.2.1.length+f.2.2.1.length+(f.2.2.2.1.set k y).length+f.2.2.2.2.1.length+f.2.2.2.2.2.1.length)+kN wPa f.2.1+kN wSw f.1+kN R9 f.2.2.1+kN Bm (f.2.2.2.1.set k y)+kN wRu f.2.2.2.2.1+kN RQ f.2.2.2.2.2.1=_
 rw[e,List.length_set]; rfl
theorem HL{f:Form}(h:fG f=true):a1 f=true/\a2 f=true/\a3 f=true/\a4 f=true/\a5 f=true/\a6 f=true:=by
 unfold fG at h
 simp only[Bool.and_eq_true]at h
 exact⟨h.1,h.2.1,h.2.2.1,h.2.2.2.1,h.2.2.2.2.1,h.2.2.2.2.2.1⟩
theorem NQ{f:Form}(hF:FS f)(hw:wF f<=600)(h:fG f=true)(k:Nat)(hk:k<f.2.2.2.1.length)(y:Field)(hy:y.1=f.2.2.2.1[k].1)(b:Bool)(hb:a4 (U6 f (f.2.2.2.1.set k y))=b):fG (U6 f (f.2.2.2.1.set k y))=b:=by
 obtain⟨h1,h2,h3,h4,h5,h6⟩:=HL h
 have h1:a1 (U6 f (f.2.2.2.1.set k y))=true:=h1
 have h2:a2 (U6 f (f.2.2.2.1.set k y))=true:=h2
 have h3:a3 (U6 f (f.2.2.2.1.set k y))=true:=h3
 have h5:a5 (U6 f (f.2.2.2.1.set k y))=true:=h5
 have h6:a6 (U6 f (f.2.2.2.1.set k y))=true:=h6
 unfold fG
 rw[h1,h2,h3,hb,h5,h6]
 cases b with
 | false=>rfl
 | true =>
  have:=z4D (YI (Dd hF k hk y hy) hb h5 h6)
  rw[wf_set k hk y hy]at this
  simp only[Bool.true_and]
  exact decide_eq_true (by omega)
theorem my(x:VV [qg,i64,i64])(hw:wfL [qg,i64,i64] x)(hb:bkL [qg,i64,i64] x<=1048576):(jO (Dz [qg,i64,i64] x).1 (Dz [qg,i64,i64] x).2.1 (Dz [qg,i64,i64] x).2.2).run=some true:=by
 obtain⟨f,i,e,u⟩:=x
 have Km:bk qg f+(1+(1+0))<=1048576:=hb
 obtain⟨b1,r1,F⟩:=Te f hw.1 (by omega)
 show(jO f i e).run=some true
 unfold jO
 cases b1 with
 | true=>rw[z6 (a:=true) (by rw[z6 r1]; rfl),zi]; rfl
 | false =>
 obtain⟨hF,hwf⟩:=F rfl
 have hn:=hF.n
 cases hI:fG f with
 | false=>rw[z6 (a:=true) (by rw[z6 r1,zg,z6 (nN f hF),hI]; rfl),zi]; rfl
 | true =>
 by_cases c:f.2.2.2.1.length=0
 ·rw[z6 (a:=true) (by rw[z6 r1,zg,z6 (nN f hF),hI]; simp[c]),zi]; rfl
 rw[z6 (a:=false) (by rw[z6 r1,zg,z6 (nN f hF),hI]; simp only[Bool.not_true,zg,z7]; simp[c]),zg]
 have ha:0<=fa .i64 i (1023:Int)/\_:=EO i 1023 (by omega)
 obtain⟨k,hk,DY⟩:∃ k:Nat,Int.tmod (fa .i64 i (1023:Int)) (f.2.2.2.1.length:Int)=(k:Int)/\k<f.2.2.2.1.length:=by
  have h0:0<=fa .i64 i (1023:Int):=ha.1
  refine⟨(Int.tmod (fa .i64 i (1023:Int)) (f.2.2.2.1.length:Int)).toNat,?_,?_⟩
  ·have:=Int.tmod_nonneg (f.2.2.2.1.length:Int) h0; omega
  ·have:=Int.tmod_lt_of_pos (fa .i64 i (1023:Int)) (b:=(f.2.2.2.1.length:Int)) (by omega)
   have:=Int.tmod_nonneg (f.2.2.2.1.length:Int) h0; omega
 have hp:0<=fa .i64 e (7:Int)/\fa .i64 e (7:Int)<=(7:Int):=EO e 7 (by omega)
 obtain⟨p,hp1,hp2⟩:∃ p:Nat,fa .i64 e (7:Int)=(p:Int)/\p<=7:=⟨(fa .i64 e (7:Int)).toNat,by have:=hp.1; omega,by have:=hp.2; omega⟩
 have h4:=(HL hI).2.2.2.1
 have hng:jF f.2.2.2.1 k (zj zL)=f.2.2.2.1[k]:=by simp[jF,DY]
 have id:∀ y:Field,List.drop 0 (List.take (f.2.2.2.1.length) (f.2.2.2.1.set k y))=f.2.2.2.1.set k y:=λy=>by rw[List.drop_zero,List.take_of_length_le (by simp)]
 generalize hx:f.2.2.2.1[k]=x at *
 have G:=NQ hF hwf hI k DY (x.1,(x.2.1,(x.2.2.1,(e,())))) (by rw[hx]) (decide (0<=e)&&decide (e<=9)) (by
  show dQ (tK (f.2.2.1.length:Int)) (λx=>x.2.1) 0 (f.2.2.2.1.set k (x.1,(x.2.1,(x.2.2.1,(e,())))))=_
  rw[GB _ _ _ (!(decide (0<=e)&&decide (e<=9))) _ k 0 DY (by rw[hx]) (λb hb => ?_) h4,Bool.not_not]
  rw[hx]at hb
  unfold tK at hb ⊢
  simp only[Bool.or_eq_false_iff,decide_eq_false_iff_not]at hb
  obtain⟨q1,q2,q3,_,_⟩:=hb
  dsimp only
  rw[decide_eq_false q1,decide_eq_false q2,q3]
  rw[Bool.eq_iff_iff]
  simp)
 have H:=NQ hF hwf hI k DY (x.1,(((f.2.2.1.length+p:Nat):Int),(x.2.2.1,(x.2.2.2.1,())))) (by rw[hx]) false (by
  refine Hn _ _ _ (λb => ?_) _ k 0 DY
  unfold tK
  dsimp only
  rw[decide_eq_true (p:=(f.2.2.1.length:Int)<=((f.2.2.1.length+p:Nat):Int)) (by omega)]
  simp)
 have FG:=Dd hF k DY (x.1,(x.2.1,(x.2.2.1,(e,())))) (by rw[hx])
 have FH:=Dd hF k DY (x.1,(((f.2.2.1.length+p:Nat):Int),(x.2.2.1,(x.2.2.2.1,())))) (by rw[hx])
 have pH:(vQ (U6 f (f.2.2.2.1.set k (x.1,(((f.2.2.1.length+p:Nat):Int),(x.2.2.1,(x.2.2.2.1,()))))))).run=some []:=by
  rw[QQ _ FH]; unfold prF; rw[H]; rfl
 have w1:zF ((f.2.2.1.length:Int)+(p:Int))=((f.2.2.1.length+p:Nat):Int):=by rw[zu (by omega) (by omega)]; omega
 simp only[hk,hp1,w1,Int.toNat_natCast,Nat.zero_add,hng,id]
 have sG:=jQ _ FG
 have sH:=jQ _ FH
 rw[G]at sG
 rw[H]at sH
 rw[zb (by omega),zb ⟨rfl,rfl,rfl,by omega⟩,zb (qp DY),zb ⟨rfl,DY⟩,zb ⟨rfl,rfl,rfl,by omega⟩,zb (qp DY),zb ⟨rfl,DY⟩,z6 (jQ f hF),hI,zi,zb trivial,z6 sG]
 by_cases z1:0<=e
 ·rw[decide_eq_true z1,zi,za (by simp),zb trivial,z6 sH,za (by rfl),zb trivial,z6 pH,za (by rfl),z6 VC,z7]
 ·rw[decide_eq_false z1,zg,za (by simp),zb trivial,z6 sH,za (by rfl),zb trivial,z6 pH,za (by rfl),z6 VC,z7]
end Go.AM.Lf
