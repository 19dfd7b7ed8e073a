/-
  Plain laws of the lifted program, part 2.
-/
import Derived.Test.YthhgaidlooddpaaGreatDoorLf0
import Derived.Test.YthhgaidlooddpaaGreatDoorAmA
import Derived.Test.YthhgaidlooddpaaGreatDoorAmD
import Derived.Test.YthhgaidlooddpaaGreatDoorQ0
import Derived.Test.YthhgaidlooddpaaGreatDoorQ1
set_option linter.unusedVariables false
open Go.AM.T (Kf cY mh qw wU z6 z7 z8 zL za zb zg zh zo)
namespace Go.AM.Lf
open PL
mutual
def fe(deep:Nat)(left:Int):Expr->Bool×Int
 | .mk k n s l=>if left-1<0\/(decide (deep<32)&&jF (.mk k n s l))=false then(false,left-1)else yP (deep+1) (left-1) l
def yP(deep:Nat)(left:Int):List Expr->Bool×Int
 | []=>(true,left)
 | e::r=>if(fe deep left e).1=true then yP deep (fe deep left e).2 r else(false,(fe deep left e).2)
end
mutual
theorem Yw:∀ (e:Expr) (d:Nat) (left:Int),0<=left->(fe d left e).1=(vN d e&&decide ((w6 e:Int)<=left))/\((fe d left e).1=true->(fe d left e).2=left-w6 e)/\(fe d left e).2<=left /\ -1<=(fe d left e).2
 | .mk k n s l,d,left,h=>by
  have e1:vN d (.mk k n s l)=((decide (d<32)&&jF (.mk k n s l))&&jz (d+1) l):=by unfold vN; rw[Bool.and_assoc]
  have e2:w6 (.mk k n s l)=1+wX l:=rfl
  unfold fe
  rw[e1,e2]
  by_cases c:left-1<0
  ·rw[if_pos (.inl c)]
   refine⟨?_,λh=>by simp at h,by omega,by dsimp only; omega⟩
   dsimp only
   rw[show decide (((1+wX l:Nat):Int)<=left)=false from decide_eq_false (by omega),Bool.and_false]
  ·cases q:(decide (d<32)&&jF (.mk k n s l))with
   | false=>rw[if_pos (.inr rfl)]; exact⟨rfl,λh=>by simp at h,by dsimp only; omega,by dsimp only; omega⟩
   | true =>
    rw[if_neg (by rintro(h | h); exact c h; simp at h),Bool.true_and]
    obtain⟨h1,h2,h3,h4⟩:=Cg l (d+1) (left-1) (by omega)
    refine⟨?_,λh=>by rw[h2 h]; omega,by omega,by omega⟩
    rw[h1]
    congr 1
    exact decide_eq_decide.2 (by omega)
theorem Cg:∀ (l:List Expr) (d:Nat) (left:Int),0<=left->(yP d left l).1=(jz d l&&decide ((wX l:Int)<=left))/\((yP d left l).1=true->(yP d left l).2=left-wX l)/\(yP d left l).2<=left /\ -1<=(yP d left l).2
 | [],d,left,h=>by
  refine⟨?_,λ_ => ?_,Int.le_refl _,?_⟩
  ·show true=(true&&decide (((0:Nat):Int)<=left)); simp; omega
  ·show left=left-((0:Nat):Int); omega
  ·show -1<=left; omega
 | e::r,d,left,h=>by
  have e1:jz d (e::r)=(vN d e&&jz d r):=rfl
  have e2:wX (e::r)=w6 e+wX r:=rfl
  obtain⟨h1,h2,h3,h4⟩:=Yw e d left h
  unfold yP
  rw[e1,e2]
  cases q:(fe d left e).1 with
  | false =>
   rw[if_neg (by simp)]
   refine⟨?_,λh=>by simp at h,h3,h4⟩
   dsimp only
   rw[q]at h1
   cases ho:vN d e with
   | false=>rfl
   | true =>
    rw[ho,Bool.true_and]at h1
    have:=of_decide_eq_false h1.symm
    rw[show decide (((w6 e+wX r:Nat):Int)<=left)=false from decide_eq_false (by omega),Bool.and_false]
  | true =>
   rw[if_pos rfl]
   have hq:=h2 q
   rw[q]at h1
   have h1:=h1.symm
   rw[Bool.and_eq_true,decide_eq_true_eq]at h1
   obtain⟨g1,g2,g3,g4⟩:=Cg r d (fe d left e).2 (by omega)
   refine⟨?_,λh=>by rw[g2 h]; omega,by omega,by omega⟩
   rw[g1,h1.1,Bool.true_and]
   congr 1
   exact decide_eq_decide.2 (by omega)
end
theorem Ep(e:Expr)(deep:Nat)(left:Int)(h:allOk e)(hl:w6 e<=1000000)(hl0:0<=left)(fh:left<=100000)(hd:deep<=32):(jP e (deep:Int) left).run=some (fe deep left e):=by
 unfold jP
 refine cY (λx:Expr×Int×Int=>allOk x.1/\0<=x.2.1/\x.2.1<=32/\w6 x.1<=1000000/\0<=x.2.2/\x.2.2<=100000) (λx=>w6 x.1) (λx=>fe x.2.1.toNat x.2.2 x.1) (λx hx g hg => ?_) (x:=(e,(deep:Int),left)) ⟨h,by dsimp only; omega,by dsimp only; omega,by dsimp only; omega,by dsimp only; omega,by dsimp only; omega⟩
 obtain⟨e,d,L⟩:=x
 obtain⟨ha,Mn,EB,hn,zdq,hlf⟩:=hx
 dsimp only at ha Mn EB hn zdq hlf
 obtain⟨D,rfl⟩:∃ D:Nat,d=(D:Int):=⟨d.toNat,by omega⟩
 cases e with | mk k n s kids =>
 obtain⟨Wf,B7⟩:=ha
 have Lu:w6 (.mk k n s kids)=1+wX kids:=by unfold w6; rfl
 rw[Lu]at hn
 have ew:zF (L-1)=L-1:=zB (by omega) (by omega)
 have OW:=Uv (.mk k n s kids) Wf
 simp only[Int.toNat_natCast]
 unfold gW
 rw[ew]
 have head:((.ite (decide ((L-1)<(0:Int))) (.ret (true,L-1)) (.ite (decide ((32:Int)<=(D:Int))) (.ret (true,L-1)) (T.bind (yV (.mk k n s kids)) λr=>.ret ((!r),L-1)))):T (Bool×Int)).run =
   some (decide (L-1<0\/(decide (D<32)&&jF (.mk k n s kids))=false),L-1):=by
  by_cases c0:L-1<0
  ·rw[za (decide_eq_true c0),z7,decide_eq_true (.inl c0)]
  ·rw[z8 (decide_eq_false c0)]
   by_cases c:D<32
   ·rw[z8 (decide_eq_false (by omega)),z6 OW,z7,decide_eq_true c,Bool.true_and]
    cases jF (.mk k n s kids)<;>simp[c0]
   ·rw[za (decide_eq_true (by omega)),z7,decide_eq_false c,Bool.false_and]
    simp
 rw[z6 head]
 dsimp only
 unfold fe
 by_cases q:L-1<0\/(decide (D<32)&&jF (.mk k n s kids))=false
 ·rw[za (decide_eq_true q),z7,if_pos q]
 ·rw[z8 (decide_eq_false q),if_neg q]
  have q1:¬ L-1<0:=λh=>q (.inl h)
  have hD:D<32:=by
   by_cases c:D<32
   ·exact c
   ·exact absurd (.inr (by rw[decide_eq_false c]; rfl)) q
  have ed:zF ((D:Int)+1)=((D+1:Nat):Int):=by rw[zB (by omega) (by omega)]; omega
  have loop:∃ z,(zP (λy0 y1 y2=>g (y0,y1,y2)) kids (kids.length:Int) (((D:Int),()),((0:Int),L-1))).run=some z /\
    (((yP (D+1) (L-1) kids).1=true/\z=.inl (yP (D+1) (L-1) kids).2)\/((yP (D+1) (L-1) kids).1=false/\∃ i:Int,0<=i/\z=.inr (i,(yP (D+1) (L-1) kids).2))):=by
   refine T.qL (r:=zC (λy0 y1 y2=>g (y0,y1,y2)) kids (kids.length:Int)) (λst:(Int×Unit)×Int×Int=>∃ (j:Nat) (B:Int),st=(((D:Int),()),(j:Int),B)/\j<=kids.length/\0<=B/\B<=100000 /\
    yP (D+1) B (kids.drop j)=yP (D+1) (L-1) kids) (λst=>kids.length-st.2.1.toNat) _ (λst xM => ?_) ⟨0,L-1,rfl,by omega,by omega,by omega,by rw[List.drop_zero]⟩
   obtain⟨j,B,rfl,hj,hB0,hB,YS⟩:=xM
   by_cases c:j<kids.length
   ·have hdr:kids.drop j=kids[j]::kids.drop (j+1):=List.drop_eq_getElem_cons c
    rw[hdr]at YS
    rw[show yP (D+1) B (kids[j]::kids.drop (j+1))=if(fe (D+1) B kids[j]).1=true then yP (D+1) (fe (D+1) B kids[j]).2 (kids.drop (j+1))else(false,(fe (D+1) B kids[j]).2)from rfl]at YS
    have ZK:=yy B7 _ (List.getElem_mem c)
    have Nf:=Yw kids[j] (D+1) B hB0
    have Eo:w6 kids[j]<1+wX kids:=by have:=cn (List.getElem_mem c); omega
    have W3:=hg (kids[j],((D+1:Nat):Int),B) ⟨ZK,by dsimp only; omega,by dsimp only; omega,by dsimp only; omega,by dsimp only; omega,by dsimp only; omega⟩ (by dsimp only; rw[Lu]; exact Eo)
    dsimp only at W3
    simp only[Int.toNat_natCast]at W3
    have hf:(j8 (λy0 y1 y2=>g (y0,y1,y2)) kids[j] (D:Int) B).run=some (!(fe (D+1) B kids[j]).1,(fe (D+1) B kids[j]).2):=by
     unfold j8
     rw[ed,z6 W3]; rfl
    unfold zC
    dsimp only
    rw[za (ua c),zb (zW c),uN c,z6 hf]
    dsimp only
    cases hk:(fe (D+1) B kids[j]).1 with
    | true =>
     left
     rw[hk,if_pos rfl]at YS
     rw[z8 (by rfl),z7]
     have hlen:=oO kids
     rw[fB j _ c (by omega)]
     have hb:=Nf.1
     rw[hk]at hb
     have hb:=hb.symm
     rw[Bool.and_eq_true,decide_eq_true_eq]at hb
     have h2:=Nf.2.1 hk
     refine⟨_,rfl,⟨j+1,(fe (D+1) B kids[j]).2,rfl,c,by omega,by omega,YS⟩,?_⟩
     simp only[Int.toNat_natCast]
     omega
    | false =>
     right
     rw[hk,if_neg (by simp)]at YS
     rw[za (by rfl),z7]
     exact⟨_,rfl,.inr ⟨by rw[<- YS],(j:Int),by omega,by rw[<- YS]⟩⟩
   ·right
    have hj2:j=kids.length:=by omega
    subst hj2
    rw[List.drop_length]at YS
    unfold zC
    dsimp only
    rw[z8 (jy _),z7]
    exact⟨_,rfl,.inl ⟨by rw[<- YS]; rfl,by rw[<- YS]; rfl⟩⟩
  obtain⟨z,hz,hc⟩:=loop
  have hcf:(q8 (λy0 y1 y2=>g (y0,y1,y2)) kids ((D:Int),()) (L-1)).run=some (!(yP (D+1) (L-1) kids).1,(yP (D+1) (L-1) kids).2):=by
   unfold q8 qC
   rcases hc with⟨ho,rfl⟩ | ⟨ho,i,hi,rfl⟩
   ·have:((T.bind (zP (λy0 y1 y2=>g (y0,y1,y2)) kids (kids.length:Int) (((D:Int),()),((0:Int),L-1)))<|Sum.elim (λv2=>.ret ((-1:Int),v2)) (λ(x2,v3)=>.ret (x2,v3))):T (Int×Int)).run=some (-1,(yP (D+1) (L-1) kids).2):=by
     rw[z6 hz]; rfl
    rw[z6 this,ho]; rfl
   ·have:((T.bind (zP (λy0 y1 y2=>g (y0,y1,y2)) kids (kids.length:Int) (((D:Int),()),((0:Int),L-1)))<|Sum.elim (λv2=>.ret ((-1:Int),v2)) (λ(x2,v3)=>.ret (x2,v3))):T (Int×Int)).run=some (i,(yP (D+1) (L-1) kids).2):=by
     rw[z6 hz]; rfl
    rw[z6 this,ho,z7,decide_eq_true hi]; rfl
  rw[show Expr.kids (.mk k n s kids)=kids from rfl,z6 hcf]
  dsimp only
  rw[z7,Bool.not_not]
def Ec(e:Expr):Bool:=vN 0 e&&decide (w6 e<=256)
theorem Ni(e:Expr)(h:allOk e)(hn:w6 e<=1000000):(uz e).run=some (Ec e):=by
 unfold uz Ec
 have:=Ep e 0 256 h hn (by omega) (by omega) (by omega)
 have this:(jP e 0 256).run=some (fe 0 256 e):=this
 rw[z6 this,z7,(Yw e 0 256 (by omega)).1]
 congr 2
 exact decide_eq_decide.2 (by omega)
def yw(e:Expr):Prop:=allOk e/\bkE e<=300*w6 e
def PR.ir(N:Nat):PR->Prop
 | .ok e r _=>yw e/\w6 e+r.length<=N
 | _=>True
theorem Yy(e:Expr):1<=w6 e:=by cases e; unfold w6; omega
theorem kB:jt qc:=⟨bz,bz,by show(0:Nat)<=100; omega,by show(0:Nat)<=100; omega⟩
theorem pU(k:Int)(n:Rat)(s:zf)(hn:jt n)(hs:s.length<=24):yw (.mk k n s []):=by
 refine⟨⟨hn,trivial⟩,?_⟩
 have h3:=hn.2.2.1
 have h4:=hn.2.2.2
 show 1+((1+((List.length n.2.1+1)+((List.length n.2.2.1+1)+1)))+((List.length s+1)+((0+1)+1)))<=300*(1+0)
 omega
theorem D4(k:Int){a:Expr}(h:yw a):yw (sa k [a]):=by
 refine⟨⟨kB,h.1,trivial⟩,?_⟩
 show 1+((1+((0+1)+((0+1)+1)))+((0+1)+(((bkE a+0)+1)+1)))<=300*(1+(w6 a+0))
 have:=h.2
 omega
theorem En(k:Int){a b:Expr}(h:yw a)(h2:yw b):yw (sa k [a,b]):=by
 refine⟨⟨kB,h.1,h2.1,trivial⟩,?_⟩
 show 1+((1+((0+1)+((0+1)+1)))+((0+1)+(((bkE a+(bkE b+0))+1)+1)))<=300*(1+(w6 a+(w6 b+0)))
 have:=h.2
 have:=h2.2
 omega
theorem nd1(k:Int)(a:Expr):w6 (sa k [a])=1+w6 a:=rfl
theorem nd2(k:Int)(a b:Expr):w6 (sa k [a,b])=1+(w6 a+w6 b):=rfl
theorem PR.rh{N:Nat}{R:PR}{f:Expr->zf->Bool->PR}{M:Nat}(h:R.ir M)(hf:∀ e r l,yw e->w6 e+r.length<=M->(f e r l).ir N):(R.bind f).ir N:=by
 cases R with
 | no=>trivial
 | er=>trivial
 | ok e r l=>exact hf e r l h.1 h.2
theorem z03(t:zf)(ht:t.length<=400):jt (rT t):=by
 unfold rT
 split
 ·rename_i n d h
  have:=Xj (List.isPrefixOf [45] t) ht h
  exact⟨this.1,this.2.1,by have:=this.2.2.1; omega,by have:=this.2.2.2; omega⟩
 ·exact kB
theorem QY{z:Rat}(hz:jt z)(t r:zf)(l:Bool)(N:Nat)(h:r.length+1<=N):(VI z t r l).ir N:=by
 unfold VI
 split
 ·exact⟨pU 1 z [] hz (by simp),by show 1+0+r.length<=N; omega⟩
 ·exact⟨pU 1 _ [] (z03 t (by omega)) (by simp),by show 1+0+r.length<=N; omega⟩
theorem Mu{z:Rat}(hz:jt z)(d:Nat)(c:UInt8)(r:zf)(l:Bool)(hc:kY c=true):(UX z d (c::r) l).ir (c::r).length:=by
 have hd:(c::r).dropWhile kY=r.dropWhile kY:=by rw[List.dropWhile_cons_of_pos hc]
 have hl:=(iH kY r).length_le
 unfold UX
 rw[hd]
 split
 ·exact QY hz _ _ _ _ (by simp)
 ·rename_i c' q e
  rw[e]at hl
  split
  ·split
   ·trivial
   ·have:=(iH kY q).length_le
    simp only[List.length_cons]at hl
    exact QY hz _ _ _ _ (by simp only[List.length_cons]; omega)
  ·exact QY hz _ _ _ _ (by simp only[List.length_cons]at hl ⊢; omega)
theorem HJ(p:UInt8->Bool):∀ (n:Nat) (r:zf),(gN p n r).1.length<=n
 | 0,_=>by unfold gN; simp
 | _+1,[]=>by unfold gN; simp
 | n+1,c::r=>by
  have:=HJ p n r
  unfold gN
  split
  ·simp only[List.length_cons]; omega
  ·simp
theorem ER{c:UInt8}(h:XW c=true):ux c=true:=by unfold ux; rw[h]; rfl
theorem N8(c:UInt8)(r:zf)(l:Bool)(hc:XW c=true):(EP (c::r) l).ir (c::r).length:=by
 have h1:=HJ ux 24 (c::r)
 have h2:=congrArg List.length (tV ux 24 (c::r))
 have h3:(gN ux 24 (c::r)).1=c::(gN ux 23 r).1:=by
  show(if ux c=true then(c::(gN ux 23 r).1,(gN ux 23 r).2)else([],c::r)).1=_
  rw[if_pos (ER hc)]
 rw[List.length_append,h3]at h2
 refine⟨pU 2 qc _ kB h1,?_⟩
 show 1+0+(gN ux 24 (c::r)).2.length<=_
 simp only[List.length_cons]at h2 ⊢
 omega
theorem QO{m r q:zf}{c:UInt8}(h:kc m r=some (c,q)):q.length+1<=r.length:=by
 have:=(iJ h).1.length_le
 simpa using this
theorem JX{K:Bool->zf->PR}(hK:∀ l q,(K l q).ir q.length)(m1 m2:UInt8)(k1 k2:Int):∀ (n:Nat) (e:Expr) (r:zf) (l:Bool) (N:Nat),yw e->w6 e+r.length<=N->(yx K m1 m2 k1 k2 n e r l).ir N
 | 0,_,_,_,_,_,_=>trivial
 | n+1,e,r,l,N,he,hN=>by
  unfold yx
  split
  ·exact⟨he,by have:=Gs r; omega⟩
  ·rename_i c q ht
   have hq:=QO ht
   refine PR.rh (hK l q) λe2 q2 l2 h1 h2 => ?_
   refine JX hK m1 m2 k1 k2 n _ q2 l2 N (En _ he h1) ?_
   rw[nd2]
   omega
theorem Kw{K:Bool->zf->PR}(hK:∀ l q,(K l q).ir q.length)(m1 m2:UInt8)(k1 k2:Int)(n:Nat)(l:Bool)(r:zf):(rowP K m1 m2 k1 k2 n l r).ir r.length :=
 PR.rh (hK l r) λe q l' h1 h2=>JX hK m1 m2 k1 k2 n e q l' _ h1 h2
theorem M8{z:Rat}(hz:jt z){F S:Nat->Bool->zf->PR}(hF:∀ d l q,(F d l q).ir q.length)(hS:∀ d l q,(S d l q).ir q.length)(d:Nat)(l:Bool)(r:zf):(ZJ z F S d l r).ir r.length:=by
 have hk:=Gs r
 unfold ZJ
 split
 ·trivial
 ·rename_i c q e
  rw[e]at hk
  simp only[List.length_cons]at hk
  split
  ·split
   ·trivial
   ·refine PR.rh (hF _ _ _) λe2 r2 l2 h1 h2=>⟨D4 7 h1,?_⟩
    rw[nd1]; omega
  ·split
   ·split
    ·trivial
    ·refine PR.rh (hS _ _ _) λe2 r2 l2 h1 h2 => ?_
     split
     ·rename_i ht
      have:=QO ht
      exact⟨h1,by omega⟩
     ·trivial
   ·split
    ·rename_i hc
     have:=Mu hz d c q l hc
     cases w:UX z d (c::q) l with
     | no=>trivial
     | er=>trivial
     | ok e2 r2 l2=>rw[w]at this; exact⟨this.1,by have:=this.2; simp only[List.length_cons]at this; omega⟩
    ·split
     ·rename_i hc
      have:=N8 c q l hc
      exact⟨this.1,by have:=this.2; simp only[List.length_cons]at this; omega⟩
     ·trivial
theorem YV{z:Rat}(hz:jt z):∀ (n:Nat),(∀ d l r,(pF z n d l r).ir r.length)/\(∀ d l r,(pP z n d l r).ir r.length)/\(∀ d l r,(pS z n d l r).ir r.length)
 | 0=>⟨λ_ _ _=>by unfold pF; trivial,λ_ _ _=>by unfold pP; trivial,λ_ _ _=>by unfold pS; trivial⟩
 | n+1=>by
  obtain⟨h1,h2,h3⟩:=YV hz n
  refine⟨λd l r => ?_,λd l r => ?_,λd l r => ?_⟩
  ·unfold pF; exact M8 hz h1 h3 d l r
  ·unfold pP; exact Kw (h1 d) _ _ _ _ n l r
  ·unfold pS; exact Kw (h2 d) _ _ _ _ n l r
theorem PR.WH{R:PR}{f:Expr->zf->Bool->PR}{M:Nat}(h:R≠.no)(hg:R.ir M)(hf:∀ e r l,yw e->w6 e+r.length<=M->f e r l≠.no):R.bind f≠.no:=by
 cases R with
 | no=>exact absurd rfl h
 | er=>intro h; cases h
 | ok e r l=>exact hf e r l hg.1 hg.2
theorem BM{K:Bool->zf->PR}(hK:∀ l q,(K l q).ir q.length)(m1 m2:UInt8)(k1 k2:Int):∀ (n:Nat) (e:Expr) (r:zf) (l:Bool),(∀ l q,q.length<=r.length->K l q≠.no)->r.length+1<=n->yx K m1 m2 k1 k2 n e r l≠.no
 | 0,_,_,_,_,h=>by omega
 | n+1,e,r,l,hT,h=>by
  unfold yx
  split
  ·intro h; cases h
  ·rename_i c q ht
   have hq:=QO ht
   refine PR.WH (hT l q (by omega)) (hK l q) λe2 q2 l2 h1 h2 => ?_
   have:=Yy e2
   exact BM hK m1 m2 k1 k2 n _ q2 l2 (λl q3 h3=>hT l q3 (by omega)) (by omega)
theorem B8{K:Bool->zf->PR}(hK:∀ l q,(K l q).ir q.length)(m1 m2:UInt8)(k1 k2:Int)(n:Nat)(l:Bool)(r:zf)(hT:∀ l q,q.length<=r.length->K l q≠.no)(h:r.length<=n):rowP K m1 m2 k1 k2 n l r≠.no:=by
 refine PR.WH (hT l r (Nat.le_refl _)) (hK l r) λe q l' h1 h2 => ?_
 have:=Yy e
 exact BM hK m1 m2 k1 k2 n e q l' (λl q3 h3=>hT l q3 (by omega)) (by omega)
theorem Oo(z:Rat)(d:Nat)(r:zf)(l:Bool):UX z d r l≠.no:=by
 have fin:∀ t q,VI z t q l≠.no:=λt q=>by unfold VI; split<;>(intro h; cases h)
 unfold UX
 split
 ·exact fin _ _
 ·split
  ·split
   ·intro h; cases h
   ·exact fin _ _
  ·exact fin _ _
theorem NV{z:Rat}(hz:jt z):∀ (n:Nat),(∀ d l r,3*r.length+1<=n->pF z n d l r≠.no)/\(∀ d l r,3*r.length+2<=n->pP z n d l r≠.no)/\(∀ d l r,3*r.length+3<=n->pS z n d l r≠.no)
 | 0=>⟨λ_ _ _ h=>by omega,λ_ _ _ h=>by omega,λ_ _ _ h=>by omega⟩
 | n+1=>by
  obtain⟨h1,h2,h3⟩:=NV hz n
  obtain⟨g1,g2,g3⟩:=YV hz n
  refine⟨λd l r h => ?_,λd l r h => ?_,λd l r h => ?_⟩
  ·unfold pF
   have hk:=Gs r
   unfold ZJ
   split
   ·intro h; cases h
   ·rename_i c q e
    rw[e]at hk
    simp only[List.length_cons]at hk
    split
    ·split
     ·intro h; cases h
     ·exact PR.WH (h1 _ _ _ (by omega)) (g1 _ _ _) λ_ _ _ _ _=>by intro h; cases h
    ·split
     ·split
      ·intro h; cases h
      ·refine PR.WH (h3 _ _ _ (by omega)) (g3 _ _ _) λ_ _ _ _ _ => ?_
       split<;>(intro h; cases h)
     ·split
      ·exact Oo z d _ l
      ·split<;>(intro h; cases h)
  ·unfold pP
   exact B8 (g1 d) _ _ _ _ n l r (λl q hq=>h1 d l q (by omega)) (by omega)
  ·unfold pS
   exact B8 (g2 d) _ _ _ _ n l r (λl q hq=>h2 d l q (by omega)) (by omega)
theorem Dp(s:zf)(hs:s.length<=1000000)(ST:KT)(N:Nat)(hS:∀ m,m<=N->∀ d l r,d<=31->r <:+ s->pS qc m d l r≠.no->(ST (qE s r d l)).run=encR s d (pS qc m d l r))
  (n:Nat) (hn:n<=N+1) (d:Nat) (l:Bool) (r:zf) (hd:d<=31) (h:r <:+ s) (yA:pF qc n d l r≠.no):(xp ST (qE s r d l)).run=encR s d (pF qc n d l r):=by
 unfold xp
 obtain⟨y,hy⟩:∃ y,encR s d (pF qc n d l r)=some y:=by
  cases q:pF qc n d l r with
  | no=>exact absurd q yA
  | er=>exact⟨_,rfl⟩
  | ok=>exact⟨_,rfl⟩
 rw[hy]
 refine T.Le (λn x y=>n<=N+1/\∃ d l r,d<=31/\r <:+ s/\x=qE s r d l/\pF qc n d l r≠.no/\encR s d (pF qc n d l r)=some y) (λx y => ?_) (λn x y hx g hg => ?_) (n:=n) ⟨hn,d,l,r,hd,h,rfl,yA,hy⟩
 ·rintro⟨_,d,l,r,_,_,_,h,_⟩
  exact h (by unfold pF; rfl)
 ·obtain⟨hn,d,l,r,hd,h,rfl,yA,hy⟩:=hx
  rw[<- hy]
  unfold pF at yA ⊢
  have hgF:∀ d l r,d<=31->r <:+ s->pF qc n d l r≠.no->(g (qE s r d l)).run=encR s d (pF qc n d l r):=by
   intro d l r hd h yA
   obtain⟨y,hy⟩:∃ y,encR s d (pF qc n d l r)=some y:=by
    cases q:pF qc n d l r with
    | no=>exact absurd q yA
    | er=>exact⟨_,rfl⟩
    | ok=>exact⟨_,rfl⟩
   rw[hy]
   exact hg _ _ ⟨by omega,d,l,r,hd,h,rfl,yA,hy⟩
  exact HM s hs (λy0=>g y0) ST (pF qc n) (pS qc n) hgF (hS n (by omega)) ((Uw qc s n).2.2) d l r hd h yA
theorem YD(ST:KT)(m:zf)(k:u6)(p:zc):xF ST () m k p=z0Y (xp ST) m k p:=rfl
theorem Jm(ST:KT)(m:zf)(k:u6)(p:zc):xz ST () m k p=z0Y (xd ST) m k p:=rfl
theorem BA{t:T ((AM.Expr×zc)⊕(u6×zc))}{o:Option ((AM.Expr×zc)⊕(u6×zc))}(h:t.run=o)(ho:o≠none):(T.bind t<|Sum.elim (λ(r,p1)=>.ret (.inl (r,p1))) (λ(pv,p2)=>.ret (.inr (pv,p2))):T ((AM.Expr×zc)⊕(u6×zc))).run=o:=by
 cases o with
 | none=>exact absurd rfl ho
 | some x=>rw[z6 h]; cases x<;>rfl
theorem B0{s:zf}{d:Nat}{R:PR}(h:R≠.no):encR s d R≠none:=by
 cases R with
 | no=>exact absurd rfl h
 | er=>intro h; cases h
 | ok=>intro h; cases h
theorem Bf(s:zf)(hs:s.length<=1000000)(ST:KT)(N:Nat)(hS:∀ m,m<=N->∀ d l r,d<=31->r <:+ s->pS qc m d l r≠.no->(ST (qE s r d l)).run=encR s d (pS qc m d l r))
  (n:Nat) (hn:n<=N+1) (d:Nat) (l:Bool) (r:zf) (hd:d<=31) (h:r <:+ s) (yA:pP qc n d l r≠.no):(xd ST (qE s r d l)).run=encR s d (pP qc n d l r):=by
 cases n with
 | zero=>exact absurd (by unfold pP; rfl) yA
 | succ n =>
  unfold pP at yA ⊢
  unfold xd
  refine BA ?_ (B0 yA)
  rw[YD]
  exact BO s hs d (xp ST) (pF qc n d) (λl r h yA=>Dp s hs ST N hS n (by omega) d l r hd h yA) ((Uw qc s n).1 d) 42 47 (by decide) (by decide) 5 6 n l r h yA
theorem z1H(s:zf)(hs:s.length<=1000000)(n:Nat)(d:Nat)(l:Bool)(r:zf)(hd:d<=31)(h:r <:+ s)(yA:pS qc n d l r≠.no):(ui (qE s r d l)).run=encR s d (pS qc n d l r):=by
 have cV:∀ (n d:Nat) (l:Bool) (r:zf),pS qc n d l r≠.no->∃ y,encR s d (pS qc n d l r)=some y:=by
  intro n d l r yA
  cases q:pS qc n d l r with
  | no=>exact absurd q yA
  | er=>exact⟨_,rfl⟩
  | ok=>exact⟨_,rfl⟩
 unfold ui
 obtain⟨y,hy⟩:=cV n d l r yA
 rw[hy]
 refine T.Le (λn x y=>∃ m,m<=n/\∃ d l r,d<=31/\r <:+ s/\x=qE s r d l/\pS qc m d l r≠.no/\encR s d (pS qc m d l r)=some y) (λx y => ?_) (λn x y hx g hg => ?_) (n:=n) ⟨n,Nat.le_refl _,d,l,r,hd,h,rfl,yA,hy⟩
 ·rintro⟨m,hm,d,l,r,_,_,_,h,_⟩
  have:m=0:=by omega
  subst this
  exact h (by unfold pS; rfl)
 ·obtain⟨m,hm,d,l,r,hd,h,rfl,yA,hy⟩:=hx
  rw[<- hy]
  cases m with
  | zero=>exact absurd (by unfold pS; rfl) yA
  | succ m =>
   have hg2:∀ k,k<=m->∀ d l r,d<=31->r <:+ s->pS qc k d l r≠.no->(g (qE s r d l)).run=encR s d (pS qc k d l r):=by
    intro k hk d l r hd h yA
    obtain⟨y,hy⟩:=cV k d l r yA
    rw[hy]
    exact hg _ _ ⟨k,by omega,d,l,r,hd,h,rfl,yA,hy⟩
   unfold pS at yA ⊢
   unfold uA
   refine BA ?_ (B0 yA)
   rw[Jm]
   exact BO s hs d (xd λy0=>g y0) (pP qc m d) (λl r h yA=>Bf s hs (λy0=>g y0) m hg2 m (by omega) d l r hd h yA) ((Uw qc s m).2.1 d) 43 45 (by decide) (by decide) 3 4 m l r h yA
def rU(s:zf):PR->Expr×Int×Int×Bool
 | .no=>(zE,0,0,false)
 | .er k b _ _ l=>(zE,((vI s b:Nat):Int),k,l)
 | .ok e [] l=>(e,0,0,l)
 | .ok _ (c::r) l=>(zE,((vI s (c::r):Nat):Int),2,l)
def mP(z:Rat)(s:zf):PR:=pS z (3*s.length+3) 0 false s
theorem Fp{z:Rat}(hz:jt z)(s:zf):mP z s≠.no:=(NV hz _).2.2 0 false s (Nat.le_refl _)
theorem ON(z:Rat)(s:zf):(mP z s).Y0 s:=(Uw z s _).2.2 0 false s (List.suffix_refl s)
theorem KQ{z:Rat}(hz:jt z)(s:zf):(mP z s).ir s.length:=(YV hz _).2.2 0 false s
theorem Ej(s:zf)(hs:s.length<=1000000):∃ p,(ju (s,((0:Int),((0:Int),(false,()))))).run=some ((rU s (mP qc s)).1,((rU s (mP qc s)).2.1,((rU s (mP qc s)).2.2.1,p)))/\p.2.2.2.1=(rU s (mP qc s)).2.2.2:=by
 have yA:=Fp kB s
 have hsf:=ON qc s
 have hr:=z1H s hs (3*s.length+3) 0 false s (by omega) (List.suffix_refl s) yA
 have e0:qE s s 0 false=(s,((0:Int),((0:Int),(false,())))):=by unfold qE; rw[Nr]; rfl
 rw[e0]at hr
 have hr:(ui (s,((0:Int),((0:Int),(false,()))))).run=encR s 0 (mP qc s):=hr
 unfold ju
 cases q:mP qc s with
 | no=>exact absurd q yA
 | er k b r d l =>
  rw[q]at hr
  refine⟨qE s r d l,?_,rfl⟩
  rw[z6 hr,Sum.elim_inr]
  rfl
 | ok e r l =>
  rw[q]at hr hsf
  cases r with
  | nil =>
   refine⟨qE s [] 0 l,?_,rfl⟩
   rw[z6 hr,Sum.elim_inl]
   dsimp only
   rw[vV,wT,VN,zg]
   rfl
  | cons c r =>
   refine⟨qE s (c::r) 0 l,?_,rfl⟩
   rw[z6 hr,Sum.elim_inl]
   dsimp only
   rw[vV,wT,Zn hsf,zh]
   rfl
def CY(s:zf)(R:PR):Expr×Int×Int :=
 if(rU s R).2.2.1≠0 then(zE,((rU s R).2.1,(rU s R).2.2.1))
 else if(rU s R).2.2.2=true\/Ec (rU s R).1=false then(zE,((0:Int),(3:Int)))
 else((rU s R).1,((0:Int),(0:Int)))
def qJ(s:zf):Expr×Int×Int:=CY s (mP qc s)
theorem Wr:yw zE:=pU 0 qc [] kB (by simp)
theorem K5{s:zf}{R:PR}{N:Nat}(h:R.ir N)(h1:1<=N):yw (rU s R).1/\w6 (rU s R).1<=N:=by
 have hz:yw zE/\w6 zE<=N:=⟨Wr,h1⟩
 cases R with
 | no=>exact hz
 | er=>exact hz
 | ok e r l =>
  cases r with
  | nil=>exact⟨h.1,by have:=h.2; show w6 e<=N; omega⟩
  | cons=>exact hz
theorem KJ(s:zf)(hs:s.length<=900000):(k9 s).run=some (qJ s):=by
 obtain⟨p,h1,h2⟩:=Ej s (by omega)
 have hg:=K5 (s:=s) (R:=mP qc s) (N:=s.length+1) (by
  have:=KQ kB s
  cases q:mP qc s with
  | no=>trivial
  | er=>trivial
  | ok e r l=>rw[q]at this; exact⟨this.1,by have:=this.2; omega⟩) (by omega)
 unfold qJ CY
 generalize rU s (mP qc s)=w at h1 h2 hg ⊢
 obtain⟨e,at_,x,l⟩:=w
 dsimp only at h1 h2 hg ⊢
 unfold k9
 rw[z6 h1]
 dsimp only
 by_cases c:x≠0
 ·rw[za (by simpa using c),z7,if_pos c]
 ·rw[z8 (by simpa using c),if_neg c,h2]
  have hI:=Ni e hg.1.1 (by omega)
  rw[z6 (a:=(decide (l=true\/Ec e=false),(zE,(p,e))))]
  ·dsimp only
   by_cases c2:l=true\/Ec e=false
   ·rw[za (decide_eq_true c2),z7,if_pos c2]
   ·rw[z8 (decide_eq_false c2),z7,if_neg c2]
  ·cases l with
   | true=>rw[zh,z7]; simp
   | false =>
    rw[zg,z6 hI,z7]
    cases Ec e<;>simp
inductive QR where
 | no
 | er (k:Int) (bad:zf) (x:Expr) (r:zf) (d:Nat) (l:Bool)
 | ok (e:Expr) (r:zf) (l:Bool)
def QR.Y0(s:zf)(d:Nat):QR->Prop
 | .no=>True
 | .er k b _ r d' _=>k≠0/\b <:+ s/\r <:+ s/\d<=d'/\d'<=1000
 | .ok _ r _=>r <:+ s
def gI(a b:Rat):Bool:=((norm a).1==(norm b).1)&&(((norm a).2.1==(norm b).2.1)&&((norm a).2.2.1==(norm b).2.2.1))
theorem Nc{a b:Rat}:gI a b=true↔norm a=norm b:=by
 unfold gI
 rw[Bool.and_eq_true,Bool.and_eq_true,beq_iff_eq,beq_iff_eq,beq_iff_eq]
 constructor
 ·rintro⟨h1,h2,h3⟩
  exact Prod.ext h1 (Prod.ext h2 (Prod.ext h3 rfl))
 ·intro h; rw[h]; exact⟨rfl,rfl,rfl⟩
mutual
def sameE:Expr->Expr->Bool
 | .mk k n s l,.mk k' n' s' l'=>(k==k')&&(zl s s'&&(gI n n'&&sameEs l l'))
def sameEs:List Expr->List Expr->Bool
 | [],[]=>true
 | a::r,b::r'=>sameE a b&&sameEs r r'
 | [],_::_=>false
 | _::_,[]=>false
end
theorem ta:∀ (a b:List Expr),a.length≠b.length->sameEs a b=false
 | [],[],h=>absurd rfl h
 | _::r,_::r',h=>by
  show(sameE _ _&&sameEs r r')=false
  rw[ta r r' (λe=>h (by simp[e])),Bool.and_false]
 | [],_::_,_=>rfl
 | _::_,[],_=>rfl
theorem EC(s:zf):zl s s=true:=by rw[vx]; simp
mutual
theorem bC:∀ (e:Expr),sameE e e=true
 | .mk k n s l=>by
  show((k==k)&&(zl s s&&(gI n n&&sameEs l l)))=true
  rw[EC,Nc.2 rfl,XJ l]; simp
theorem XJ:∀ (l:List Expr),sameEs l l=true
 | []=>rfl
 | a::r=>by
  show(sameE a a&&sameEs r r)=true
  rw[bC a,XJ r]; rfl
end
theorem HE(R:Int->T (Int⊕(Unit⊕Bool)))(a b:List Expr)(hl:a.length=b.length)
  (step:∀ k (h:k<a.length) (h':k<b.length),(R (k:Int)).run=some (if sameE a[k] b[k]=true then .inl ((k+1:Nat):Int)else .inr (.inr false)))
  (done:(R (a.length:Int)).run=some (.inr (.inl ()))):(T.loop R 0).run=some (if sameEs a b=true then .inl ()else .inr false):=by
 have key:∀ (m k:Nat),k+m=a.length->(T.loop R (k:Int)).run=some (if sameEs (a.drop k) (b.drop k)=true then .inl ()else .inr false):=by
  intro m
  induction m with
  | zero =>
   intro k hk
   have:k=a.length:=by omega
   subst this
   rw[List.drop_length,hl,List.drop_length]
   rw[hl]at done
   exact qw done
  | succ m ih =>
   intro k hk
   have h1:k<a.length:=by omega
   have h2:k<b.length:=by omega
   rw[List.drop_eq_getElem_cons h1,List.drop_eq_getElem_cons h2]
   show _=some (if(sameE a[k] b[k]&&sameEs (a.drop (k+1)) (b.drop (k+1)))=true then _ else _)
   have st:=step k h1 h2
   cases q:sameE a[k] b[k]with
   | true =>
    rw[q,if_pos rfl]at st
    rw[wU st,Bool.true_and]
    exact ih (k+1) (by omega)
   | false =>
    rw[q,if_neg (by simp)]at st
    exact qw st
 have:=key a.length 0 (by omega)
 simpa using this
theorem sE(a b:Rat)(ha:jt a)(hb:jt b):(bO a b).run=some (gI a b):=by
 have na:=di (k:=100) (by omega) ha
 have nb:=di (k:=100) (by omega) hb
 unfold bO gI
 rw[z6 (dB a (ct ha (by omega))),z6 (dB b (ct hb (by omega)))]
 cases((norm a).1==(norm b).1)with
 | false=>rfl
 | true =>
  rw[zh,z6 (mS _ _ (by have:=na.2.2.1; omega)),Bool.true_and]
  cases((norm a).2.1==(norm b).2.1)with
  | false=>rfl
  | true=>rw[zh,z6 (mS _ _ (by have:=na.2.2.2; omega)),z7,Bool.true_and]
theorem Uu(e:Expr):(Expr.kids e).length<=w6 e:=by
 cases e with | mk k n s l =>
 have:=oO l
 show l.length<=1+wX l
 omega
theorem bV(a b:Expr)(ha:allOk a)(hb:allOk b)(la:w6 a<=1000000):(bG a b).run=some (sameE a b):=by
 unfold bG
 refine cY (λx:Expr×Expr=>allOk x.1/\allOk x.2/\w6 x.1<=1000000) (λx=>w6 x.1) (λx=>sameE x.1 x.2) (λx hx g hg => ?_) (x:=(a,b)) ⟨ha,hb,la⟩
 obtain⟨a,b⟩:=x
 obtain⟨ha,hb,la⟩:=hx
 dsimp only at ha hb la ⊢
 cases a with | mk k n s l =>
 cases b with | mk k' n' s' l' =>
 have hk:=Uu (.mk k n s l)
 have hk:l.length<=w6 (.mk k n s l):=hk
 unfold fI
 show _=some ((k==k')&&(zl s s'&&(gI n n'&&sameEs l l')))
 have head:((.ite (k != k') (.ret true) (.ite (!(zl s s')) (.ret true) (T.bind (bO n n') λr=>.ite (!r) (.ret true) (.ret ((Nat.cast (List.length l):Int) != (Nat.cast (List.length l'):Int)))))):T Bool).run=some (!((k==k')&&(zl s s'&&(gI n n'&&((l.length:Int)==(l'.length:Int)))))):=by
  rw[bne]
  cases(k==k')with
  | false=>rfl
  | true =>
   rw[z8 (by rfl)]
   cases zl s s' with
   | false=>rfl
   | true =>
    rw[z8 (by rfl),z6 (sE n n' ha.1 hb.1)]
    cases gI n n' with
    | false=>rfl
    | true=>rw[z8 (by rfl),z7]; rfl
 show(T.bind (.ite (k != k') (.ret true) (.ite (!(zl s s')) (.ret true) (T.bind (bO n n') λr=>.ite (!r) (.ret true) (.ret ((Nat.cast (List.length l):Int) != (Nat.cast (List.length l'):Int)))))) _).run=_
 rw[z6 head]
 cases q:((k==k')&&(zl s s'&&(gI n n'&&((l.length:Int)==(l'.length:Int)))))with
 | false =>
  rw[za (by rfl),z7]
  congr 1
  revert q
  by_cases hl:l.length=l'.length
  ·rw[show((l.length:Int)==(l'.length:Int))=true by simp[hl]]
   cases(k==k')<;>cases zl s s'<;>cases gI n n'<;>simp
  ·rw[ta l l' hl]
   simp
 | true =>
  simp only[Bool.and_eq_true,beq_iff_eq]at q
  obtain⟨q1,q2,q3,q4⟩:=q
  have hl:l.length=l'.length:=by omega
  rw[z8 (by rfl),q2,q3,show(k==k')=true by simpa using q1,Bool.true_and,Bool.true_and,Bool.true_and]
  have key:(Zx (λy0 y1=>g (y0,y1)) (.mk k n s l) (.mk k' n' s' l') 0).run=some (if sameEs l l'=true then .inl ()else .inr false):=by
   refine HE (ba (λy0 y1=>g (y0,y1)) (.mk k n s l) (.mk k' n' s' l')) l l' hl (λj h h' => ?_) ?_
   ·have hr:=hg (l[j],l'[j]) ⟨yy ha.2 _ (List.getElem_mem h),yy hb.2 _ (List.getElem_mem h'),by have:=cn (List.getElem_mem h); have e:w6 (.mk k n s l)=1+wX l:=rfl; show w6 l[j]<=1000000; omega⟩ (by have:=cn (List.getElem_mem h); have e:w6 (.mk k n s l)=1+wX l:=rfl; show w6 l[j]<w6 (.mk k n s l); omega)
    unfold ba
    dsimp only
    rw[show Expr.kids (.mk k n s l)=l from rfl,show Expr.kids (.mk k' n' s' l')=l' from rfl,za (ua h),zb (zW h),zb (zW h'),uN h,uN h',z6 hr]
    cases sameE l[j] l'[j]with
    | false=>rfl
    | true=>rw[z8 (by rfl),z7,fB j _ h (by omega),if_pos rfl]
   ·unfold ba
    dsimp only
    rw[show Expr.kids (.mk k n s l)=l from rfl,z8 (jy _),z7]
  rw[z6 key]
  cases sameEs l l'<;>rfl
theorem z3d:zx 2=[2]:=by rw[kg (by omega),show 2 / 4294967296=0 from rfl,qo]; rfl
theorem OO:rT [50]=(false,[2],[1],()):=by
 have e:Jv [50]=some (2,1):=by decide +kernel
 unfold rT
 rw[e]
 show j3 _ 2 1=_
 unfold j3
 rw[if_neg (by decide),show 2 / Nat.gcd 2 1=2 from rfl,show 1 / Nat.gcd 2 1=1 from rfl,z3d,z3o]
 rfl
def iN(s:zf):Expr:=.mk 2 qc s []
theorem RC:norm (false,[2],[1],())=(false,[2],[1],()):=by
 rw[<- OO]
 have e:Jv [50]=some (2,1):=by decide +kernel
 have:rT [50]=j3 (List.isPrefixOf [45] [50]) 2 1:=by
  unfold rT
  rw[e]
  rfl
 rw[this]
 exact Nl _ _ _
theorem z1f:kP (rT [50])=true:=by
 rw[OO]
 unfold kP iA kT trimB
 rw[RC]
 show(((zx 2==[2])&&((zx 1==[1])&&_))&&_)=true
 rw[z3d,z3o]
 rfl
theorem HI(s:zf):yw (qJ s).1/\w6 (qJ s).1<=s.length+1:=by
 have hg:=K5 (s:=s) (R:=mP qc s) (N:=s.length+1) (by
  have:=KQ kB s
  cases q:mP qc s with
  | no=>trivial
  | er=>trivial
  | ok e r l=>rw[q]at this; exact⟨this.1,by have:=this.2; omega⟩) (by omega)
 have hz:yw zE/\w6 zE<=s.length+1:=⟨Wr,by show(1:Nat)+0<=s.length+1; omega⟩
 unfold qJ CY
 split
 ·exact hz
 ·split
  ·exact hz
  ·exact hg
theorem zq{α:Type}(n:Nat)(t:T α):(T.zM (uv n 0 n n) t).run=t.run:=zL t rfl rfl rfl
theorem MB(s:zf)(h:s.length<=1000000000):(fT s).run=some (bE 32 [] s):=by
 have e:(strings_FieldsFunc s (λz0=>gV z0)).run=some (bE 32 [] s):=by
  unfold strings_FieldsFunc
  rw[zb (by omega),z7]
 unfold fT
 rw[z6 e,z7]
def gB:zf->Option (zf×Int×zf)
 | []=>none
 | b::r=>if b=61 then some ([],0,r)else if b=60 then(if[61].isPrefixOf r=true then some ([],2,r.drop 1)else some ([],1,r))else
   match gB r with
   | some (l,c,q)=>some (b::l,c,q)
   | none=>none
theorem Uk:∀ {s:zf},(∀ b∈s,b≠60/\b≠61)->gB s=none
 | [],_=>rfl
 | b::r,h=>by
  have hb:=h b List.mem_cons_self
  unfold gB
  rw[if_neg hb.2,if_neg hb.1,Uk λx hx=>h x (List.mem_cons_of_mem _ hx)]
theorem Kv:∀ {a:zf} (t:zf),(∀ b∈a,b≠60/\b≠61)->gB (a++t)=(match gB t with | some (l,c,q)=>some (a++l,c,q) | none=>none)
 | [],t,_=>by
  show gB t=_
  cases gB t<;>rfl
 | b::a,t,h=>by
  have hb:=h b List.mem_cons_self
  show(if b=61 then _ else if b=60 then _ else match gB (a++t)with | some (l,c,q)=>some (b::l,c,q) | none=>none)=_
  rw[if_neg hb.2,if_neg hb.1,Kv t λx hx=>h x (List.mem_cons_of_mem _ hx)]
  cases gB t<;>rfl
theorem Vj:∀ s:zf,(gY s [60,61] = -1/\∀ b∈s,b≠60/\b≠61)\/∃ (a:zf) (c:UInt8) (r:zf),s=a++c::r/\(c=60\/c=61)/\(∀ b∈a,b≠60/\b≠61)/\gY s [60,61]=(a.length:Int)
 | []=>.inl ⟨rfl,λb h=>by cases h⟩
 | b::r=>by
  by_cases hb:b=60\/b=61
  ·refine .inr ⟨[],b,r,rfl,hb,λx h=>absurd h List.not_mem_nil,?_⟩
   unfold gY
   rw[if_pos (by rcases hb with rfl | rfl<;>rfl)]
   rfl
  ·have hn:b≠60/\b≠61:=⟨λh=>hb (.inl h),λh=>hb (.inr h)⟩
   have hc:([60,61]:zf).contains b=false:=by
    rw[List.contains_eq_mem,decide_eq_false_iff_not]
    simp[hn.1,hn.2]
   have e:gY (b::r) [60,61]=if gY r [60,61] == -1 then -1 else gY r [60,61]+1:=by
    show(if([60,61]:zf).contains b=true then _ else _)=_
    rw[hc,if_neg (by simp)]
   rcases Vj r with⟨h1,h2⟩ | ⟨a,c,q,rfl,h2,h3,h4⟩
   ·refine .inl ⟨by rw[e,h1]; rfl,λx hx => ?_⟩
    rcases List.mem_cons.1 hx with rfl | hx
    ·exact hn
    ·exact h2 x hx
   ·refine .inr ⟨b::a,c,q,rfl,h2,λx hx => ?_,?_⟩
    ·rcases List.mem_cons.1 hx with rfl | hx
     ·exact hn
     ·exact h3 x hx
    ·rw[e,h4,if_neg (by rw[beq_iff_eq]; omega),List.length_cons]; omega
theorem z18(a:zf)(c:UInt8)(r:zf):vv ((a.length:Nat):Int) ((a.length+1:Nat):Int) (a++c::r)=[c]:=by
 rw[jG]
 rw[show(a++c::r).take (a.length+1)=a++[c] by rw[List.take_append,List.take_of_length_le (by omega)]; simp]
 simp
theorem OH(a t:zf):vv (0:Int) ((a.length:Nat):Int) (a++t)=a:=by
 have:=jG (a++t) 0 a.length
 rw[List.drop_zero,List.take_left']at this
 ·exact this
 ·rfl
theorem LY(a:zf)(c:UInt8)(r:zf):vv ((a.length+1:Nat):Int) (((a++c::r).length:Nat):Int) (a++c::r)=r:=by
 rw[jG,List.take_length,show a++c::r=(a++[c])++r by simp,List.drop_left' (by simp)]
theorem E7(s p:zf)(h:s.length<=1000000000)(hp:p.length<=1000000):(strings_HasPrefix s p).run=some (List.isPrefixOf p s):=by
 have e:(xA s p).run=some (List.isPrefixOf p s):=by
  unfold xA
  rw[zb (λhd=>eC.2 ⟨by omega,by omega,by have:=of_decide_eq_true hd; omega⟩),z7]
  have hc:vv (0:Int) ((p.length:Nat):Int) s=s.take p.length:=by
   have:=jG s 0 p.length
   rwa [List.drop_zero]at this
  rw[hc]
  congr 1
  rw[Bool.eq_iff_iff,Bool.and_eq_true,decide_eq_true_eq,vx,decide_eq_true_eq,List.isPrefixOf_iff_prefix,List.prefix_iff_eq_take]
  constructor
  ·rintro⟨-,e⟩; exact e.symm
  ·intro e
   exact⟨by have:=congrArg List.length e; rw[List.length_take]at this; omega,e.symm⟩
 unfold strings_HasPrefix
 rw[z6 e,z7]
def kQ(eA s:zf):Expr×Expr×zf×Int:=match gB s with
 | none=>(zE,(zE,(([]:zf),(2:Int))))
 | some (l,c,r)=>if(qJ l).2.2≠0 then((qJ l).1,(zE,(([]:zf),(qJ l).2.2)))
  else((qJ l).1,((qJ r).1,(bD c,(if(qJ r).2.2=0/\¬ (0<=cZ eA (bD c))then 2 else(qJ r).2.2))))
theorem Qo(s eA:zf)(hs:s.length<=80000)(hg:eA.length<=1000):(vC s eA).run=some (kQ eA s):=by
 have hI:(strings_IndexAny s [60,61]).run=some (gY s [60,61]):=by
  unfold strings_IndexAny
  rw[zb ⟨by omega,by decide,by decide,by decide⟩,z7]
 unfold vC
 rw[z6 hI]
 rcases Vj s with⟨h1,h2⟩ | ⟨a,c,r,rfl,hc,ha,hi⟩
 ·rw[h1,za (by rfl),z7]
  unfold kQ
  rw[Uk h2]
 ·have hlen:(a++c::r).length=a.length+(r.length+1):=by rw[List.length_append,List.length_cons]
  have hw:zF (((a.length:Nat):Int)+1)=((a.length+1:Nat):Int):=by rw[zB (by omega) (by omega)]; omega
  rw[hi,z8 (decide_eq_false (by omega)),hw,zb (eC.2 ⟨by omega,by omega,by omega⟩),zb (eC.2 ⟨by omega,by omega,by omega⟩),zb (eC.2 ⟨by omega,by omega,by omega⟩),z18,LY,OH]
  have fin:∀ (cm:Int) (q:zf),gB (a++c::r)=some (a,cm,q)->q.length<=80000->(cm=0\/cm=1\/cm=2)->(T.bind (k9 a) λ(r1,r2,e) =>
   .ite (e != (0:Int))
    (.ret (r1,(zE,(([]:zf),e))))
    (T.bind (T.bind (k9 q) λ(r3,r4,e1) =>
       T.bind (.ite (e1==(0:Int))
          (T.bind (strings_Contains eA (bD cm)) λr5 =>
           .ret ((!r5),(r1,r3)))
          (.ret (false,(r1,r3))):T ((Bool×AM.Expr×AM.Expr))) λ(x1,v4,v5) =>
       .ite x1
        (.ret ((2:Int),(v4,v5)))
        (.ret (e1,(v4,v5))):T ((Int×AM.Expr×AM.Expr))) λ(e2,v6,v7) =>
     .ret (v6,(v7,(bD cm,e2)))):T (AM.Expr×AM.Expr×zf×Int)).run=some (kQ eA (a++c::r)):=by
   intro cm q he hq hcm
   unfold kQ
   rw[he,z6 (KJ a (by omega))]
   dsimp only
   have hQ:=KJ q (by omega)
   generalize qJ a=A
   generalize qJ q=B at hQ ⊢
   obtain⟨A1,A2,A3⟩:=A
   obtain⟨B1,B2,B3⟩:=B
   dsimp only
   by_cases e:A3≠0
   ·rw[if_pos e,za (by simpa using e),z7]
   ·rw[if_neg e,z8 (by simpa using e)]
    have hC:(strings_Contains eA (bD cm)).run=some (decide ((0:Int)<=cZ eA (bD cm))):=by
     unfold strings_Contains
     rw[zb (by omega),z7]
    have inner:(T.bind (k9 q) λ(r3,r4,e1) =>
       T.bind (.ite (e1==(0:Int))
          (T.bind (strings_Contains eA (bD cm)) λr5 =>
           .ret ((!r5),(A1,r3)))
          (.ret (false,(A1,r3))):T ((Bool×AM.Expr×AM.Expr))) λ(x1,v4,v5) =>
       .ite x1
        (.ret ((2:Int),(v4,v5)))
        (.ret (e1,(v4,v5))):T ((Int×AM.Expr×AM.Expr))).run=some ((if B3=0/\¬ (0<=cZ eA (bD cm))then 2 else B3),(A1,B1)):=by
     rw[z6 hQ]
     dsimp only
     by_cases e2:B3=0
     ·subst e2
      have hb:(.ite (((0:Int))==(0:Int)) (T.bind (strings_Contains eA (bD cm)) λr5=>.ret ((!r5),(A1,B1))) (.ret (false,(A1,B1))):T ((Bool×AM.Expr×AM.Expr))).run=some ((!decide ((0:Int)<=cZ eA (bD cm))),(A1,B1)):=by
       rw[za (by rfl),z6 hC,z7]
      rw[z6 hb]
      dsimp only
      by_cases k:(0:Int)<=cZ eA (bD cm)
      ·rw[if_neg (λh=>h.2 k),z8 (by rw[decide_eq_true k]; rfl),z7]
      ·rw[if_pos ⟨rfl,k⟩,za (by rw[decide_eq_false k]; rfl),z7]
     ·have hb:(.ite (B3==(0:Int)) (T.bind (strings_Contains eA (bD cm)) λr5=>.ret ((!r5),(A1,B1))) (.ret (false,(A1,B1))):T ((Bool×AM.Expr×AM.Expr))).run=some (false,(A1,B1)):=by
       rw[z8 (by simpa using e2),z7]
      rw[z6 hb]
      dsimp only
      rw[if_neg (λh=>e2 h.1),zg,z7]
    rw[z6 inner]
    dsimp only
    rw[z7]
  have Jh:=Kv (c::r) ha
  rcases hc with rfl | rfl
  ·have hp:=E7 r [61] (by omega) (by decide)
   have hq:(.ite (zl ([60]:zf) ([60]:zf)) (T.bind (strings_HasPrefix r ([61]:zf)) λr=>.ret (r,(zE,zE))) (.ret (false,(zE,zE))):T (Bool×AM.Expr×AM.Expr)).run=some (List.isPrefixOf [61] r,(zE,zE)):=by
    rw[za (uo _),z6 hp,z7]
   have ec:gB (60::r)=(if[61].isPrefixOf r=true then some ([],2,r.drop 1)else some ([],1,r)):=by
    show(if(60:UInt8)=61 then _ else if(60:UInt8)=60 then _ else _)=_
    rw[if_neg (by decide),if_pos rfl]
   rw[ec]at Jh
   by_cases k:[61].isPrefixOf r=true
   ·rw[if_pos k]at Jh
    have hr:r.length >= 1:=by
     cases r with
     | nil=>cases k
     | cons x y=>simp
    have hsg:(T.bind (.ite (zl ([60]:zf) ([60]:zf)) (T.bind (strings_HasPrefix r ([61]:zf)) λr=>.ret (r,(zE,zE))) (.ret (false,(zE,zE))):T (Bool×AM.Expr×AM.Expr)) λ(x,v,v1) =>
     .ite x
      (.zM (bf (1:Int) ((r.length:Nat):Int) (List.length r)) <|
       .ret (([60,61]:zf),((vv (1:Int) ((r.length:Nat):Int) r),(v,v1))))
      (.ret (([60]:zf),(r,(v,v1)))):T ((zf×zf×AM.Expr×AM.Expr))).run=some (([60,61]:zf),(r.drop 1,(zE,zE))):=by
     rw[z6 hq]
     dsimp only
     rw[za k,zb (eC.2 ⟨by omega,by omega,by omega⟩),z7]
     have:=jG r 1 r.length
     rw[List.take_length]at this
     rw[show vv (1:Int) ((r.length:Nat):Int) r=r.drop 1 from this]
    refine(z6 hsg _).trans ?_
    exact fin 2 (r.drop 1) (by rw[Jh]; simp) (by rw[List.length_drop]; omega) (.inr (.inr rfl))
   ·rw[if_neg k]at Jh
    have hsg:(T.bind (.ite (zl ([60]:zf) ([60]:zf)) (T.bind (strings_HasPrefix r ([61]:zf)) λr=>.ret (r,(zE,zE))) (.ret (false,(zE,zE))):T (Bool×AM.Expr×AM.Expr)) λ(x,v,v1) =>
     .ite x
      (.zM (bf (1:Int) ((r.length:Nat):Int) (List.length r)) <|
       .ret (([60,61]:zf),((vv (1:Int) ((r.length:Nat):Int) r),(v,v1))))
      (.ret (([60]:zf),(r,(v,v1)))):T ((zf×zf×AM.Expr×AM.Expr))).run=some (([60]:zf),(r,(zE,zE))):=by
     rw[z6 hq]
     dsimp only
     rw[z8 (by cases hh:List.isPrefixOf [61] r with | false=>rfl | true=>exact absurd hh k),z7]
    refine(z6 hsg _).trans ?_
    exact fin 1 r (by rw[Jh]; simp) (by omega) (.inr (.inl rfl))
  ·have ec:gB (61::r)=some ([],0,r):=by
    show(if(61:UInt8)=61 then _ else _)=_
    rw[if_pos rfl]
   rw[ec]at Jh
   have hsg:(T.bind (.ite (zl ([61]:zf) ([60]:zf)) (T.bind (strings_HasPrefix r ([61]:zf)) λr=>.ret (r,(zE,zE))) (.ret (false,(zE,zE))):T (Bool×AM.Expr×AM.Expr)) λ(x,v,v1) =>
     .ite x
      (.zM (bf (1:Int) ((r.length:Nat):Int) (List.length r)) <|
       .ret (([60,61]:zf),((vv (1:Int) ((r.length:Nat):Int) r),(v,v1))))
      (.ret (([61]:zf),(r,(v,v1)))):T ((zf×zf×AM.Expr×AM.Expr))).run=some (([61]:zf),(r,(zE,zE))):=by
    have hq:(.ite (zl ([61]:zf) ([60]:zf)) (T.bind (strings_HasPrefix r ([61]:zf)) λr=>.ret (r,(zE,zE))) (.ret (false,(zE,zE))):T (Bool×AM.Expr×AM.Expr)).run=some (false,(zE,zE)):=by
     rw[z8 (by rfl),z7]
    rw[z6 hq]
    dsimp only
    rw[zg,z7]
   refine(z6 hsg _).trans ?_
   exact fin 0 r (by rw[Jh]; simp) (by omega) (.inl rfl)
theorem P0(b c:UInt8):(((b.toNat:Nat):Int)==((c.toNat:Nat):Int))=decide (b=c):=by
 rw[Bool.eq_iff_iff,beq_iff_eq,decide_eq_true_eq]
 constructor
 ·intro h; exact UInt8.toNat_inj.1 (by omega)
 ·rintro rfl; rfl
def GR(w:List zf)(n:Nat):zf×Bool:=if w.length=n then([],true)
 else if w.length=n+2/\zl (nth w (n:Int) (zj .str)) [119,104,101,110]=true/\q7 (nth w ((n+1:Nat):Int) (zj .str))=true then(nth w ((n+1:Nat):Int) (zj .str),true)else([],false)
theorem X8(w:List zf)(n:Nat)(hn:n<=1000):(ka w (n:Int)).run=some (GR w n):=by
 have w2:zF ((n:Int)+2)=((n+2:Nat):Int):=by rw[zB (by omega) (by omega)]; omega
 have w1:zF ((n:Int)+1)=((n+1:Nat):Int):=by rw[zB (by omega) (by omega)]; omega
 unfold ka GR
 rw[w2,w1]
 by_cases c:w.length=n
 ·rw[if_pos c,za (by rw[beq_iff_eq]; omega),z7]
 ·rw[if_neg c,z8 (by rw[beq_eq_false_iff_ne]; omega)]
  by_cases c2:w.length=n+2
  ·have hk:(wc w ((n+2:Nat):Int) (n:Int) [119,104,101,110]).run=some (zl (nth w (n:Int) (zj .str)) [119,104,101,110]):=by
    unfold wc
    rw[zb (λ_=>zW (by omega)),z7]
    rw[show(((w.length:Nat):Int)==((n+2:Nat):Int))=true by rw[beq_iff_eq]; omega,Bool.true_and]
   have inner:(T.bind (wc w ((n+2:Nat):Int) (n:Int) [119,104,101,110]) λr =>
     .ite r
      (.zM (qz ((n+1:Nat):Int) (List.length w)) <|
       T.bind (xn (nth w ((n+1:Nat):Int) (zj .str))) λr1 =>
       .ret r1)
      (.ret false):T (Bool)).run=some (zl (nth w (n:Int) (zj .str)) [119,104,101,110]&&q7 (nth w ((n+1:Nat):Int) (zj .str))):=by
    rw[z6 hk]
    cases zl (nth w (n:Int) (zj .str)) [119,104,101,110]with
    | false=>rw[zg,z7]; rfl
    | true=>rw[zh,zb (zW (by omega)),z6 (xI _),z7]; rfl
   rw[z6 inner]
   cases q:(zl (nth w (n:Int) (zj .str)) [119,104,101,110]&&q7 (nth w ((n+1:Nat):Int) (zj .str)))with
   | false=>rw[if_neg (λh=>by rw[h.2.1,h.2.2]at q; cases q),zg,z7]
   | true=>rw[Bool.and_eq_true]at q; rw[if_pos ⟨c2,q.1,q.2⟩,zh,zb (zW (by omega)),z7]
  ·have hk:(wc w ((n+2:Nat):Int) (n:Int) [119,104,101,110]).run=some false:=by
    have hb:(((w.length:Nat):Int)==((n+2:Nat):Int))=false:=by rw[beq_eq_false_iff_ne]; omega
    unfold wc
    rw[zb (λh=>by rw[hb]at h; cases h),z7,hb,Bool.false_and]
   have inner:(T.bind (wc w ((n+2:Nat):Int) (n:Int) [119,104,101,110]) λr =>
     .ite r
      (.zM (qz ((n+1:Nat):Int) (List.length w)) <|
       T.bind (xn (nth w ((n+1:Nat):Int) (zj .str))) λr1 =>
       .ret r1)
      (.ret false):T (Bool)).run=some false:=by
    rw[z6 hk,zg,z7]
   rw[z6 inner,if_neg (λh=>c2 h.1),zg,z7]
theorem bind_mono{R R':PR}{f f':Expr->zf->Bool->PR}(h:R≠.no->R'=R)(hf:∀ e r l,f e r l≠.no->f' e r l=f e r l)(hn:R.bind f≠.no):R'.bind f'=R.bind f:=by
 cases R with
 | no=>exact absurd rfl hn
 | er k b r d l=>rw[h (by simp)]; rfl
 | ok e r l=>rw[h (by simp)]; exact hf e r l hn
theorem dK{K K':Bool->zf->PR}(hK:∀ l q,K l q≠.no->K' l q=K l q)(m1 m2:UInt8)(k1 k2:Int):∀ (n n':Nat) (e:Expr) (r:zf) (l:Bool),n<=n'->yx K m1 m2 k1 k2 n e r l≠.no->yx K' m1 m2 k1 k2 n' e r l=yx K m1 m2 k1 k2 n e r l
 | 0,_,_,_,_,_,h=>absurd rfl h
 | n+1,0,_,_,_,h,_=>by omega
 | n+1,n'+1,e,r,l,h,hn=>by
  unfold yx at hn ⊢
  cases q:kc [m1,m2] r with
  | none=>rfl
  | some x =>
   obtain⟨c,q'⟩:=x
   rw[q]at hn
   exact bind_mono (hK l q') (λe2 q2 l2 h2=>dK hK m1 m2 k1 k2 n n' _ q2 l2 (by omega) h2) hn
theorem Y9{K K':Bool->zf->PR}(hK:∀ l q,K l q≠.no->K' l q=K l q)(m1 m2:UInt8)(k1 k2:Int)(n n':Nat)(h:n<=n')(l:Bool)(r:zf)(hn:rowP K m1 m2 k1 k2 n l r≠.no):rowP K' m1 m2 k1 k2 n' l r=rowP K m1 m2 k1 k2 n l r :=
 bind_mono (hK l r) (λe q l' h2=>dK hK m1 m2 k1 k2 n n' e q l' h h2) hn
theorem No{z:Rat}{F S F' S':Nat->Bool->zf->PR}(hF:∀ d l q,F d l q≠.no->F' d l q=F d l q)(hS:∀ d l q,S d l q≠.no->S' d l q=S d l q)(d:Nat)(l:Bool)(s:zf)(hn:ZJ z F S d l s≠.no):ZJ z F' S' d l s=ZJ z F S d l s:=by
 unfold ZJ at hn ⊢
 cases e:nw s with
 | nil=>rfl
 | cons c r =>
  rw[e]at hn
  dsimp only at hn ⊢
  by_cases Tx:c=45
  ·rw[if_pos Tx]at hn ⊢
   rw[if_pos Tx]
   by_cases c31:31<=d
   ·rw[if_pos c31,if_pos c31]
   ·rw[if_neg c31]at hn ⊢
    rw[if_neg c31]
    exact bind_mono (hF _ _ _) (λ_ _ _ _=>rfl) hn
  ·rw[if_neg Tx]at hn ⊢
   rw[if_neg Tx]
   by_cases Ts:c=40
   ·rw[if_pos Ts]at hn ⊢
    rw[if_pos Ts]
    by_cases c31:31<=d
    ·rw[if_pos c31,if_pos c31]
    ·rw[if_neg c31]at hn ⊢
     rw[if_neg c31]
     exact bind_mono (hS _ _ _) (λ_ _ _ _=>rfl) hn
   ·rw[if_neg Ts,if_neg Ts]
theorem b9(z:Rat):∀ (n n':Nat),n<=n'->(∀ d l r,pF z n d l r≠.no->pF z n' d l r=pF z n d l r)/\(∀ d l r,pP z n d l r≠.no->pP z n' d l r=pP z n d l r)/\(∀ d l r,pS z n d l r≠.no->pS z n' d l r=pS z n d l r)
 | 0,_,_=>⟨λ_ _ _ h=>absurd (by unfold pF; rfl) h,λ_ _ _ h=>absurd (by unfold pP; rfl) h,λ_ _ _ h=>absurd (by unfold pS; rfl) h⟩
 | n+1,0,h=>by omega
 | n+1,n'+1,h=>by
  obtain⟨h1,h2,h3⟩:=b9 z n n' (by omega)
  refine⟨λd l r hn => ?_,λd l r hn => ?_,λd l r hn => ?_⟩
  ·unfold pF at hn ⊢; exact No h1 h3 d l r hn
  ·unfold pP at hn ⊢; exact Y9 (h1 d) _ _ _ _ n n' (by omega) l r hn
  ·unfold pS at hn ⊢; exact Y9 (h2 d) _ _ _ _ n n' (by omega) l r hn
def SF(d:Nat)(l:Bool)(s:zf)(R:PR):Prop:=R≠.no/\∃ n,pF qc n d l s=R
def SP(d:Nat)(l:Bool)(s:zf)(R:PR):Prop:=R≠.no/\∃ n,pP qc n d l s=R
def SS(d:Nat)(l:Bool)(s:zf)(R:PR):Prop:=R≠.no/\∃ n,pS qc n d l s=R
def RP(d:Nat)(e:Expr)(r:zf)(l:Bool)(R:PR):Prop:=R≠.no/\∃ n m,yx (pF qc n d) 42 47 5 6 m e r l=R
def RS(d:Nat)(e:Expr)(r:zf)(l:Bool)(R:PR):Prop:=R≠.no/\∃ n m,yx (pP qc n d) 43 45 3 4 m e r l=R
theorem PW{d:Nat}{l:Bool}{s:zf}{e:Expr}{q:zf}{l':Bool}{R:PR}(h1:SF d l s (.ok e q l'))(h2:RP d e q l' R):SP d l s R:=by
 obtain⟨_,n1,e1⟩:=h1
 obtain⟨hR,n2,m,e2⟩:=h2
 refine⟨hR,max (max n1 n2) m+1,?_⟩
 unfold pP rowP
 rw[(b9 qc n1 (max (max n1 n2) m) (by omega)).1 d l s (by rw[e1]; simp),e1]
 show yx _ _ _ _ _ _ e q l'=R
 rw[dK (λl q h=>(b9 qc n2 (max (max n1 n2) m) (by omega)).1 d l q h) 42 47 5 6 m (max (max n1 n2) m) e q l' (by omega) (by rw[e2]; exact hR),e2]
theorem z30{d:Nat}{l:Bool}{s:zf}{e:Expr}{q:zf}{l':Bool}{R:PR}(h1:SP d l s (.ok e q l'))(h2:RS d e q l' R):SS d l s R:=by
 obtain⟨_,n1,e1⟩:=h1
 obtain⟨hR,n2,m,e2⟩:=h2
 refine⟨hR,max (max n1 n2) m+1,?_⟩
 unfold pS rowP
 rw[(b9 qc n1 (max (max n1 n2) m) (by omega)).2.1 d l s (by rw[e1]; simp),e1]
 show yx _ _ _ _ _ _ e q l'=R
 rw[dK (λl q h=>(b9 qc n2 (max (max n1 n2) m) (by omega)).2.1 d l q h) 43 45 3 4 m (max (max n1 n2) m) e q l' (by omega) (by rw[e2]; exact hR),e2]
theorem Yt{d:Nat}{e:Expr}{r:zf}{l:Bool}(h:kc [42,47] r=none):RP d e r l (.ok e (nw r) l):=⟨by simp,0,1,by unfold yx; rw[h]⟩
theorem Fk{d:Nat}{e:Expr}{r:zf}{l:Bool}(h:kc [43,45] r=none):RS d e r l (.ok e (nw r) l):=⟨by simp,0,1,by unfold yx; rw[h]⟩
theorem TQ{d:Nat}{e:Expr}{r:zf}{l:Bool}{c:UInt8}{q:zf}{e2:Expr}{q2:zf}{l2:Bool}{R:PR}(h:kc [42,47] r=some (c,q))(h1:SF d l q (.ok e2 q2 l2))(h2:RP d (sa (if c=42 then 5 else 6) [e,e2]) q2 l2 R):RP d e r l R:=by
 obtain⟨_,n1,e1⟩:=h1
 obtain⟨hR,n2,m,e3⟩:=h2
 refine⟨hR,max n1 n2,m+1,?_⟩
 unfold yx
 rw[h]
 dsimp only
 rw[(b9 qc n1 (max n1 n2) (by omega)).1 d l q (by rw[e1]; simp),e1]
 show yx _ _ _ _ _ _ _ q2 l2=R
 rw[dK (λl q h=>(b9 qc n2 (max n1 n2) (by omega)).1 d l q h) 42 47 5 6 m m _ q2 l2 (by omega) (by rw[e3]; exact hR),e3]
theorem z2y{d:Nat}{e:Expr}{r:zf}{l:Bool}{c:UInt8}{q:zf}{e2:Expr}{q2:zf}{l2:Bool}{R:PR}(h:kc [43,45] r=some (c,q))(h1:SP d l q (.ok e2 q2 l2))(h2:RS d (sa (if c=43 then 3 else 4) [e,e2]) q2 l2 R):RS d e r l R:=by
 obtain⟨_,n1,e1⟩:=h1
 obtain⟨hR,n2,m,e3⟩:=h2
 refine⟨hR,max n1 n2,m+1,?_⟩
 unfold yx
 rw[h]
 dsimp only
 rw[(b9 qc n1 (max n1 n2) (by omega)).2.1 d l q (by rw[e1]; simp),e1]
 show yx _ _ _ _ _ _ _ q2 l2=R
 rw[dK (λl q h=>(b9 qc n2 (max n1 n2) (by omega)).2.1 d l q h) 43 45 3 4 m m _ q2 l2 (by omega) (by rw[e3]; exact hR),e3]
theorem O8(m r:zf):kc m (nw r)=kc m r:=by unfold kc; rw[HK]
theorem Rv(K:Bool->zf->PR)(m1 m2:UInt8)(k1 k2:Int)(n:Nat)(e:Expr)(r:zf)(l:Bool):yx K m1 m2 k1 k2 n e (nw r) l=yx K m1 m2 k1 k2 n e r l:=by
 cases n with
 | zero=>rfl
 | succ n=>unfold yx; rw[O8,HK]
theorem z3i{d:Nat}{e:Expr}{r:zf}{l:Bool}{R:PR}(h:RS d e r l R):RS d e (nw r) l R:=by
 obtain⟨hR,n,m,e2⟩:=h
 exact⟨hR,n,m,by rw[Rv,e2]⟩
theorem zbJ{c:UInt8}(h:XW c=true):kY c=false:=by
 unfold XW at h
 rw[Bool.and_eq_true,decide_eq_true_eq,decide_eq_true_eq]at h
 cases q:kY c with
 | false=>rfl
 | true=>have:=rH.1 q; omega
theorem z61{d:Nat}{l:Bool}{s r:zf}{c:UInt8}(hs:nw s=c::r)(hc:XW c=true):SF d l s (EP (c::r) l):=by
 refine⟨by unfold EP; simp,1,?_⟩
 have Tx:c≠45:=by rintro rfl; revert hc; decide
 have Ts:c≠40:=by rintro rfl; revert hc; decide
 unfold pF ZJ
 rw[hs]
 dsimp only
 rw[if_neg Tx,if_neg Ts,if_neg (by rw[zbJ hc]; simp),if_pos hc]
theorem z6g{s:zf}{R:PR}(h:SS 0 false s R):mP qc s=R:=by
 obtain⟨hR,n,e⟩:=h
 have h2:=Fp kB s
 unfold mP at h2 ⊢
 have a:=(b9 qc (3*s.length+3) (max n (3*s.length+3)) (by omega)).2.2 0 false s h2
 have b:=(b9 qc n (max n (3*s.length+3)) (by omega)).2.2 0 false s (by rw[e]; exact hR)
 rw[<- a,b,e]
def S9:zf->Bool
 | []=>true
 | c::_ => !ux c && !(c==46)
theorem SW{q:zf}(h:S9 q=true):∀ c r,q=c::r->ux c=false/\c≠46:=by
 rintro c r rfl
 have h:(!ux c && !(c==46))=true:=h
 rw[Bool.and_eq_true]at h
 exact⟨by simpa using h.1,by simpa using h.2⟩
theorem Nk{n:Rat}(h:kP n=true):iA n=true/\n.1=false/\kT n=false/\(xc (norm n).1 (nv (norm n).2.1) (nv (norm n).2.2.1) 0 61).2=true:=by
 unfold kP at h
 simp only[Bool.and_eq_true,Bool.not_eq_true']at h
 exact⟨h.1,h.2.1,h.2.2.1,h.2.2.2⟩
theorem Y2{n:Rat}(hn:jt n)(h:iA n=true):norm n=n:=(HL n hn.1 hn.2.1).1 h
theorem Kl:∀ (n:Nat) (s q:zf),s.length<=n->s.all ux=true->S9 q=true->gN ux n (s++q)=(s,q)
 | 0,[],q,_,_,_=>rfl
 | 0,_::_,_,h,_,_=>by simp at h
 | n+1,[],[],_,_,_=>rfl
 | n+1,[],c::q,_,_,hq=>by
  have:=(SW hq c q rfl).1
  show(if ux c=true then _ else([],c::q))=_
  rw[if_neg (by rw[this]; simp)]
 | n+1,c::s,q,h,ha,hq=>by
  rw[List.all_cons,Bool.and_eq_true]at ha
  have ih:=Kl n s q (by simpa using h) ha.2 hq
  show(if ux c=true then(c::(gN ux n (s++q)).1,(gN ux n (s++q)).2)else _)=_
  rw[if_pos ha.1,ih]
theorem Gk{s:zf}(h:q7 s=true):s.length<=24/\s.all ux=true/\∃ c r,s=c::r/\XW c=true:=by
 have h2:=sX h
 refine⟨h2.1,h2.2,?_⟩
 cases s with
 | nil=>cases h
 | cons c r =>
  unfold q7 at h
  dsimp only at h
  rw[Bool.and_eq_true,Bool.and_eq_true]at h
  exact⟨c,r,rfl,h.2.1⟩
theorem MD{s:zf}(h:q7 s=true)(l:Bool){q:zf}(hq:S9 q=true):EP (s++q) l=.ok (.mk 2 qc s []) q l:=by
 obtain⟨h1,h2,_⟩:=Gk h
 unfold EP
 rw[Kl 24 s q h1 h2 hq]
theorem z5p{c:UInt8}{r:zf}(h:c≠32):nw (c::r)=c::r:=by unfold nw; rw[if_neg h]
theorem z5d{c:UInt8}(h:XW c=true):c≠32:=by rintro rfl; revert h; decide
theorem z0h{d:Nat}{k:Int}{n:Rat}{s:zf}{l:List Expr}(ho:vN d (.mk k n s l)=true) :
  (k=1/\l=[]/\kP n=true/\s=[])\/(k=2/\l=[]/\q7 s=true/\xW n=true)\/(k=7/\(∃ a,l=[a]/\vN (d+1) a=true)/\xW n=true/\s=[])\/((k=3\/k=4\/k=5\/k=6)/\(∃ a b,l=[a,b]/\vN (d+1) a=true/\vN (d+1) b=true)/\xW n=true/\s=[]):=by
 obtain⟨hk,hl⟩:=Zz ho
 have ho:(decide (d<32)&&(jF (.mk k n s l)&&jz (d+1) l))=true:=ho
 simp only[Bool.and_eq_true]at ho
 have Wv:=ho.2.1
 unfold jF at Wv
 rw[Bool.and_eq_true]at Wv
 have hb:=Wv.2
 clear Wv
 rw[show Expr.kind (.mk k n s l)=k from rfl,show Expr.num (.mk k n s l)=n from rfl,show Expr.name (.mk k n s l)=s from rfl]at hb
 have Re:(l.length:Int)=0->l=[]:=λh=>List.eq_nil_of_length_eq_zero (by omega)
 by_cases h1:k=1
 ·rw[if_pos h1,Bool.and_eq_true,vx,decide_eq_true_eq]at hb
  refine .inl ⟨h1,Re ?_,hb.1,hb.2⟩
  rw[hk]; unfold ot; rw[if_pos (.inl h1)]
 ·rw[if_neg h1]at hb
  by_cases h2:k=2
  ·rw[if_pos h2,Bool.and_eq_true]at hb
   refine .inr (.inl ⟨h2,Re ?_,hb.2,hb.1⟩)
   rw[hk]; unfold ot; rw[if_pos (.inr h2)]
  ·rw[if_neg h2,Bool.and_eq_true,vx,decide_eq_true_eq]at hb
   rcases G9 hk h1 h2 with⟨h7,a,rfl⟩ | ⟨Pk,a,b,rfl⟩
   ·have hl:(vN (d+1) a&&jz (d+1) [])=true:=hl
    rw[Bool.and_eq_true]at hl
    exact .inr (.inr (.inl ⟨h7,⟨a,rfl,hl.1⟩,hb.1,hb.2⟩))
   ·have hl:(vN (d+1) a&&(vN (d+1) b&&jz (d+1) []))=true:=hl
    rw[Bool.and_eq_true,Bool.and_eq_true]at hl
    exact .inr (.inr (.inr ⟨Pk,⟨a,b,rfl,hl.1,hl.2.1⟩,hb.1,hb.2⟩))
theorem C8{n:Rat}(h:xW n=true):norm n=norm qc:=by
 unfold xW at h
 simp only[Bool.and_eq_true,List.isEmpty_iff]at h
 have:nv n.2.1=0:=by rw[h.2.1]; rfl
 unfold norm
 have z:∀ b d,j3 b 0 d=(false,[],[1],()):=λb d=>by unfold j3; rw[if_pos (.inl rfl)]
 rw[this,z,show nv qc.2.1=0 from rfl,z]
theorem PB{d:Nat}{k:Int}{n:Rat}{s:zf}{l:List Expr}(h1:d<32)(h2:jF (.mk k n s l)=true)(h3:jz (d+1) l=true):vN d (.mk k n s l)=true:=by
 show(decide (d<32)&&(jF (.mk k n s l)&&jz (d+1) l))=true
 rw[decide_eq_true h1,h2,h3]; rfl
theorem Mo{e:Expr}(h:Ec e=true):vN 0 e=true/\w6 e<=256:=by
 unfold Ec at h
 rw[Bool.and_eq_true,decide_eq_true_eq]at h
 exact h
theorem LI{s:zf}{e:Expr}{a:Int}(h:qJ s=(e,(a,(0:Int)))):Ec e=true:=by
 unfold qJ CY at h
 split at h
 ·rename_i c
  injection h with _ h
  injection h with _ h
  exact absurd h c
 ·split at h
  ·injection h with _ h
   injection h with _ h
   exact absurd h (by decide)
  ·rename_i c
   injection h with h _
   rw[<- h]
   cases q:Ec (rU s (mP qc s)).1 with
   | true=>rfl
   | false=>exact absurd (.inr q) c
theorem z68{n:Rat}(hn:jt n)(h:kP n=true):8*n.2.1.length+8*n.2.2.1.length<=256:=by
 obtain⟨h1,h2,h3,h4⟩:=Nk h
 have e:=Y2 hn h1
 unfold kT at h3
 rw[e,Bool.or_eq_false_iff,decide_eq_false_iff_not,decide_eq_false_iff_not]at h3
 omega
theorem GA{n:Rat}(hn:jt n)(h:xW n=true):8*n.2.1.length+8*n.2.2.1.length<=256:=by
 have h0:=h
 unfold xW at h
 simp only[Bool.and_eq_true,Bool.or_eq_true,List.isEmpty_iff]at h
 obtain⟨_,h2,h3⟩:=h
 rcases h3 with h3 | h3
 ·rw[h2,h3]; simp
 ·have e:=Y2 hn h3
  have e2:=C8 h0
  rw[e]at e2
  rw[e2]
  decide +kernel
theorem z8H:∀ (m:Nat) (e:Expr) (d:Nat),w6 e<=m->vN d e=true->allOk e->szE e<=283*w6 e:=by
 intro m
 induction m with
 | zero=>intro e d hm; have:=Yy e; omega
 | succ m ih =>
  intro e d hm ho ha
  cases e with | mk k n s l =>
  have hn:=ha.1
  rcases z0h ho with⟨rfl,rfl,h1,rfl⟩ | ⟨rfl,rfl,h1,h2⟩ | ⟨rfl,⟨a,rfl,hoa⟩,h1,rfl⟩ | ⟨hk,⟨a,b,rfl,hoa,hob⟩,h1,rfl⟩
  ·have:=z68 hn h1
   simp only[szE,szEs,w6,wX,List.length_nil]; omega
  ·have:=GA hn h2
   have:=(sX h1).1
   simp only[szE,szEs,w6,wX]; omega
  ·have e1:w6 (.mk 7 n [] [a])=1+(w6 a+0):=rfl
   have:=GA hn h1
   have:=ih a _ (by omega) hoa ha.2.1
   simp only[szE,szEs,List.length_nil]; omega
  ·have e1:w6 (.mk k n [] [a,b])=1+(w6 a+(w6 b+0)):=rfl
   have:=GA hn h1
   have:=ih a _ (by omega) hoa ha.2.1
   have:=ih b _ (by omega) hob ha.2.2.1
   simp only[szE,szEs,List.length_nil]; omega
theorem Pb{e:Expr}(h:Ec e=true)(ha:allOk e):vG e:=by
 obtain⟨h1,h2⟩:=Mo h
 have:=z8H _ e 0 (Nat.le_refl _) h1 ha
 exact⟨by omega,h2,ha⟩
theorem Vf(s:zf):vG (qJ s).1:=by
 have hg:=(HI s).1.1
 by_cases h:(qJ s).2.2=0
 ·refine Pb (LI (s:=s) (a:=(qJ s).2.1) ?_) hg
  rw[<- h]
 ·have e:(qJ s).1=zE:=by
   unfold qJ CY at h ⊢
   split
   ·rfl
   ·split
    ·rfl
    ·rename_i c1 c2
     rw[if_neg c1,if_neg c2]at h
     exact absurd rfl h
  rw[e]
  exact ri (by decide) Wr.1
def xe(s:zf):Expr×Expr×Int×Int:=match gB s with
 | none=>(zE,(zE,((0:Int),(2:Int))))
 | some (l,c,r)=>if(qJ l).2.2≠0 then(zE,(zE,((0:Int),(qJ l).2.2)))else((qJ l).1,((qJ r).1,(c,(qJ r).2.2)))
abbrev Zp:=List Switch×List Param×List xl×List Field×List qG×List Check
def vP:Zp:=([],[],[],[],[],[])
def wd(l:List zf)(k:Nat):zf:=nth l (k:Int) (zj .str)
def Ny(l:List zf):Int×Zp:=if l.length=3/\q7 (wd l 1)=true/\(zl (wd l 2) [111,110]=true\/zl (wd l 2) [111,102,102]=true)
 then(0,[(wd l 1,(zl (wd l 2) [111,110],()))],[],[],[],[],[])else(2,vP)
def Gx(s:zf):Option Rat:=if 400<s.length then none else match Jv s with | some (n,d)=>some (j3 (List.isPrefixOf [45] s) n d) | none=>none
def Cy(l:List zf):Int×Zp:=if l.length=3/\q7 (wd l 1)=true then(match Gx (wd l 2)with | some r=>(0,[],[(wd l 1,(r,()))],[],[],[],[]) | none=>(2,vP))else(2,vP)
def CB(l:List zf):Int×Zp:=if 2<=l.length/\q7 (wd l 1)=true/\(GR l 2).2=true then(0,[],[],[(wd l 1,((GR l 2).1,()))],[],[],[])else(2,vP)
def ZR(w:List zf):Bool:=match w with | x::_=>zl x [109,117,115,116] | []=>false
def Um(w:List zf):Option Int:=match w with
 | []=>some 0
 | [a,[c]]=>if zl a [115,99,97,108,101]=true/\48<=c.toNat/\c.toNat<=57 then some ((c.toNat:Int)-48)else none
 | _=>none
def bm(l:List zf):List zf:=if ZR (l.drop 2)=true then l.drop 3 else l.drop 2
def DZ(np:Nat)(l:List zf):Int×Zp:=if 2<=l.length/\q7 (wd l 1)=true/\np≠0
 then(match Um (bm l)with | some k=>(0,[],[],[],[(wd l 1,((np:Int)-1,(ZR (l.drop 2),(k,()))))],[],[]) | none=>(2,vP))else(2,vP)
def Ek(s:zf):Int:=PL.tK (λt=>zl s t) 0 [[114,101,113,117,105,114,101,100],[115,116,114,111,110,103],[109,101,100,105,117,109],[119,101,97,107]]
def Nz(np:Nat)(l:List zf)(rest:zf):Int×Zp:=if l.length=2/\q7 (wd l 1)=true/\np≠0
 then((xe rest).2.2.2,[],[],[],[],[],[(wd l 1,((np:Int)-1,((xe rest).2.2.1,((xe rest).1,((xe rest).2.1,())))))])else(2,vP)
def Bs(l:List zf)(rest:zf):Int×Zp:=if 3<=l.length/\0<=Ek (wd l 1)/\q7 (wd l 2)=true/\(GR l 3).2=true
 then(if(xe rest).2.2.2=0/\(xe rest).2.2.1≠0 then(2,vP)else((xe rest).2.2.2,[],[],[],[],[(wd l 2,(Ek (wd l 1),((GR l 3).1,((xe rest).1,((xe rest).2.1,())))))],[]))else(2,vP)
theorem TU{n:Nat}(h:0<n):qz (0:Int) n:=⟨Int.le_refl _,by omega⟩
theorem fj{n:Nat}(h:1<n):qz (1:Int) n:=⟨by decide,by omega⟩
theorem Cl{n:Nat}(h:2<n):qz (2:Int) n:=⟨by decide,by omega⟩
theorem GI(l:List zf)(xs:List Switch)(bg:List Param)(vR:List xl)(cM:List Field)(cN:List qG)(cK:List Check)(hx:xs.length<=1000000) :
  (uR l () xs bg vR cM cN cK).run=some (decide ((Ny l).1=0),((),(xs++(Ny l).2.1,(bg,(vR,(cM,(cN,cK))))))):=by
 unfold uR Ny
 by_cases c1:l.length=3
 ·refine(z6 (a:=(!(q7 (wd l 1)&&(zl (wd l 2) [111,110]||zl (wd l 2) [111,102,102])),((),(xs,(bg,(vR,(cM,(cN,cK)))))))) ?_ _).trans ?_
  ·rw[z8 (by rw[c1]; rfl),zb (fj (by omega)),z6 (xI _)]
   show(T.ite (!q7 (wd l 1)) _ _).run=_
   cases q7 (wd l 1)with
   | false=>rw[za (by rfl)]; simp only[zq,T.zi,zo,z7]; rfl
   | true =>
    rw[z8 (by rfl),zb (Cl (by omega))]
    show(T.ite (!zl (wd l 2) [111,110]) _ _).run=_
    cases zl (wd l 2) [111,110]with
    | true=>rw[z8 (by rfl)]; simp only[zq,T.zi,zo,z7]; rfl
    | false=>rw[za (by rfl),zb (Cl (by omega))]; simp only[zq,T.zi,zo,z7]; rfl
  ·dsimp only
   by_cases q:q7 (wd l 1)=true/\(zl (wd l 2) [111,110]=true\/zl (wd l 2) [111,102,102]=true)
   ·rw[if_pos ⟨c1,q⟩,z8 (by rw[q.1]; rcases q.2 with h | h<;>simp[h]),zb (fj (by omega)),zb (Cl (by omega)),mh _ rfl rfl rfl (by omega)]
    simp only[List.length_append,List.length_singleton,zq,T.zi,zo,z7]
    rfl
   ·rw[if_neg (λh=>q h.2),za]
    ·simp only[zq,T.zi,zo,z7]
     show _=some (false,((),(xs++[],_)))
     rw[List.append_nil]
    ·cases h1:q7 (wd l 1)<;>cases h2:zl (wd l 2) [111,110]<;>cases h3:zl (wd l 2) [111,102,102]<;>simp[h1,h2,h3]at q<;>rfl
 ·refine(z6 (a:=(true,((),(xs,(bg,(vR,(cM,(cN,cK)))))))) ?_ _).trans ?_
  ·rw[za (by rw[bne_iff_ne]; omega)]
   simp only[zq,T.zi,zo,z7]
  ·dsimp only
   rw[if_neg (λh=>c1 h.1),zh]
   simp only[zq,T.zi,zo,z7]
   show _=some (false,((),(xs++[],_)))
   rw[List.append_nil]
theorem GK(s:zf)(hs:s.length<=1000000000):∃ r e,(yK s).run=some (r,e)/\(match Gx s with | some q=>r=q/\e=0 | none=>e≠0):=by
 have h:=sA s hs
 unfold Gx
 by_cases c:400<s.length
 ·rw[if_pos c]at h ⊢
  exact⟨_,_,h,by decide⟩
 ·rw[if_neg c]at h ⊢
  cases q:Jv s with
  | none=>rw[q]at h; exact⟨_,_,h,show(2:Int)≠0 by decide⟩
  | some p=>rw[q]at h; exact⟨_,_,h,rfl,rfl⟩
theorem BC(l:List zf)(xs:List Switch)(bg:List Param)(vR:List xl)(cM:List Field)(cN:List qG)(cK:List Check)(hx:bg.length<=1000000)(hl:∀ s∈l,s.length<=1000000) :
  ∃ Q,(ug l () xs bg vR cM cN cK).run=some (decide ((Cy l).1=0),((),(xs,(bg++Q,(vR,(cM,(cN,cK)))))))/\((Cy l).1=0->Q=(Cy l).2.2.1):=by
 by_cases c1:l.length=3/\q7 (wd l 1)=true
 ·obtain⟨r,e,h1,h2⟩:=GK (wd l 2) (by have:=hl _ (c7 (l:=l) (i:=2) (d:=zj .str) (by omega) (by omega)); exact Nat.le_trans this (by omega))
  have h1:(yK (nth l 2 (zj .str))).run=some (r,e):=h1
  refine⟨[(wd l 1,(r,()))],?_,?_⟩
  ·unfold ug
   refine(z6 (a:=(false,((),(xs,(bg,(vR,(cM,(cN,cK)))))))) ?_ _).trans ?_
   ·rw[z8 (by rw[c1.1]; rfl),zb (fj (by omega)),z6 (xI _)]
    simp only[zq,T.zi,zo,z7]
    show some (!q7 (wd l 1),_)=_
    rw[c1.2]; rfl
   ·dsimp only
    rw[zg,zb (Cl (by omega)),z6 h1]
    dsimp only
    rw[zb (fj (by omega)),mh _ rfl rfl rfl (by omega)]
    simp only[List.length_append,List.length_singleton,zq,T.zi,zo,z7]
    have:(e==(0:Int))=decide ((Cy l).1=0):=by
     unfold Cy
     rw[if_pos c1]
     cases hd:Gx (wd l 2)with
     | none=>rw[hd]at h2; rw[decide_eq_false (show ¬ (2:Int)=0 by decide)]; simpa using h2
     | some q=>rw[hd]at h2; rw[h2.2]; rfl
    rw[this]
    rfl
  ·intro h0
   unfold Cy at h0 ⊢
   rw[if_pos c1]at h0 ⊢
   cases hd:Gx (wd l 2)with
   | none=>rw[hd]at h0; exact absurd h0 (show ¬ (2:Int)=0 by decide)
   | some q=>rw[hd]at h2; rw[h2.1]
 ·have e2:Cy l=(2,vP):=by unfold Cy; rw[if_neg c1]
  refine⟨[],?_,λh=>by rw[e2]at h; exact absurd h (by decide)⟩
  unfold ug
  rw[e2,List.append_nil]
  refine(z6 (a:=(true,((),(xs,(bg,(vR,(cM,(cN,cK)))))))) ?_ _).trans ?_
  ·by_cases k:l.length=3
   ·have hn:q7 (wd l 1)=false:=by
     cases h:q7 (wd l 1)with
     | false=>rfl
     | true=>exact absurd ⟨k,h⟩ c1
    rw[z8 (by rw[k]; rfl),zb (fj (by omega)),z6 (xI _)]
    simp only[zq,T.zi,zo,z7]
    show some (!q7 (wd l 1),_)=_
    rw[hn]; rfl
   ·rw[za (by rw[bne_iff_ne]; omega)]
    simp only[zq,T.zi,zo,z7]
  ·dsimp only
   rw[zh]
   simp only[zq,T.zi,zo,z7]
   rfl
theorem Gn(l:List zf)(xs:List Switch)(bg:List Param)(vR:List xl)(cM:List Field)(cN:List qG)(cK:List Check)(hx:vR.length<=1000000) :
  ∃ Q,(vz l () xs bg vR cM cN cK).run=some (decide ((CB l).1=0),((),(xs,(bg,(vR++Q,(cM,(cN,cK)))))))/\((CB l).1=0->Q=(CB l).2.2.2.1):=by
 by_cases c1:2<=l.length/\q7 (wd l 1)=true
 ·have hg:(ka l (2:Int)).run=some ((GR l 2).1,(GR l 2).2):=X8 l 2 (by decide)
  refine⟨[(wd l 1,((GR l 2).1,()))],?_,?_⟩
  ·unfold vz
   refine(z6 (a:=(false,((),(xs,(bg,(vR,(cM,(cN,cK)))))))) ?_ _).trans ?_
   ·rw[z8 (decide_eq_false (by omega)),zb (fj (by omega)),z6 (xI _)]
    simp only[zq,T.zi,zo,z7]
    show some (!q7 (wd l 1),_)=_
    rw[c1.2]; rfl
   ·dsimp only
    rw[zg,z6 hg]
    dsimp only
    rw[zb (fj (by omega)),mh _ rfl rfl rfl (by omega)]
    simp only[List.length_append,List.length_singleton,zq,T.zi,zo,z7]
    have:(GR l 2).2=decide ((CB l).1=0):=by
     unfold CB
     cases(GR l 2).2 with
     | false=>rw[if_neg (λh=>by have:=h.2.2; cases this),decide_eq_false (by decide)]
     | true=>rw[if_pos ⟨c1.1,c1.2,rfl⟩]; rfl
    rw[this]
    rfl
  ·intro h0
   unfold CB at h0 ⊢
   split at h0
   ·rename_i h; rw[if_pos h]
   ·exact absurd h0 (by decide)
 ·have e2:CB l=(2,vP):=by unfold CB; rw[if_neg (λh=>c1 ⟨h.1,h.2.1⟩)]
  refine⟨[],?_,λh=>by rw[e2]at h; exact absurd h (by decide)⟩
  unfold vz
  rw[e2,List.append_nil]
  refine(z6 (a:=(true,((),(xs,(bg,(vR,(cM,(cN,cK)))))))) ?_ _).trans ?_
  ·by_cases k:2<=l.length
   ·have hn:q7 (wd l 1)=false:=by
     cases h:q7 (wd l 1)with
     | false=>rfl
     | true=>exact absurd ⟨k,h⟩ c1
    rw[z8 (decide_eq_false (by omega)),zb (fj (by omega)),z6 (xI _)]
    simp only[zq,T.zi,zo,z7]
    show some (!q7 (wd l 1),_)=_
    rw[hn]; rfl
   ·rw[za (decide_eq_true (by omega))]
    simp only[zq,T.zi,zo,z7]
  ·dsimp only
   rw[zh]
   simp only[zq,T.zi,zo,z7]
   rfl
theorem PX(c k:UInt8):strLt [c] [k]=decide (c.toNat<k.toNat):=by
 show Op.bytesLess [c] [k]=_
 unfold Op.bytesLess
 by_cases h:c.toNat<k.toNat
 ·rw[decide_eq_true h]; simp[Op.bytesLess,UInt8.lt_iff_toNat_lt,h]
 ·rw[decide_eq_false h]; simp[Op.bytesLess,UInt8.lt_iff_toNat_lt,h]
theorem KP{e:Ty}(l:List (den e))(k:Nat):vr (e:=e) (k:Int) ((l.length:Nat):Int) l=l.drop k:=by unfold vr; simp only[Int.toNat_natCast,List.take_length]
def NF(w:List zf):Option Int:=match w with
 | [a,[c]]=>if zl a [115,99,97,108,101]=true/\48<=c.toNat/\c.toNat<=57 then some ((c.toNat:Int)-48)else none
 | _=>none
theorem Lt(a:zf)(c:UInt8):NF [a,[c]]=if zl a [115,99,97,108,101]=true/\48<=c.toNat/\c.toNat<=57 then some ((c.toNat:Int)-48)else none:=rfl
theorem UB:∀ (x:zf) (r:List zf),Um (x::r)=NF (x::r)
 | _,[]=>rfl
 | _,[[]]=>rfl
 | _,[[_]]=>rfl
 | _,[_::_::_]=>rfl
 | _,[]::_::_=>rfl
 | _,[_]::_::_=>rfl
 | _,(_::_::_)::_::_=>rfl
theorem TI(l:List zf)(n k:Nat)(s:zf)(h:k<n):(wc l (n:Int) (k:Int) s).run=some (decide (l.length=n)&&zl (wd l k) s):=by
 unfold wc
 rw[zb (λh1=>zW (by rw[beq_iff_eq]at h1; omega)),z7]
 have:(((l.length:Nat):Int)==(n:Int))=decide (l.length=n):=by rw[Bool.eq_iff_iff,beq_iff_eq,decide_eq_true_eq]; omega
 rw[this]; rfl
theorem Jg(l:List zf)(xs:List Switch)(bg:List Param)(vR:List xl)(cM:List Field)(cN:List qG)(cK:List Check)(hx:cM.length<=1000000)(Df:vR.length<=1000000) :
  ∃ Q,(ub l () xs bg vR cM cN cK).run=some (decide ((DZ vR.length l).1=0),((),(xs,(bg,(vR,(cM++Q,(cN,cK)))))))/\((DZ vR.length l).1=0->Q=(DZ vR.length l).2.2.2.2.1):=by
 by_cases c1:2<=l.length/\q7 (wd l 1)=true/\vR.length≠0
 ·have hw:zF (((vR.length:Nat):Int)-1)=(vR.length:Int)-1:=zB (by omega) (by omega)
  have d2:vr (e:=.str) (2:Int) ((l.length:Nat):Int) l=l.drop 2:=KP (e:=.str) l 2
  have d3:vr (e:=.str) (1:Int) (((l.drop 2).length:Nat):Int) (l.drop 2)=l.drop 3:=by
   rw[show l.drop 3=(l.drop 2).drop 1 by rw[List.drop_drop]]
   exact KP (e:=.str) (l.drop 2) 1
  refine⟨[(wd l 1,((vR.length:Int)-1,(ZR (l.drop 2),((NF (bm l)).getD 0,()))))],?_,?_⟩
  ·unfold ub
   refine(z6 (a:=(false,((),(xs,(bg,(vR,(cM,(cN,cK)))))))) ?_ _).trans ?_
   ·rw[z8 (decide_eq_false (by omega)),zb (fj (by omega)),z6 (xI _)]
    show(T.ite (!q7 (wd l 1)) _ _).run=_
    rw[c1.2.1,z8 (by rfl)]
    simp only[zq,T.zi,zo,z7]
    rw[beq_eq_false_iff_ne.2 (by omega)]
   ·dsimp only
    rw[zg,zb (fj (by omega)),zb (eC.2 ⟨by omega,by omega,by omega⟩),d2,hw]
    refine(z6 (a:=(bm l,((),(xs,(bg,(vR,(cM,(cN,(cK,(wd l 1,((vR.length:Int)-1,(ZR (l.drop 2),((0:Int),())))))))))))) ) ?_ _).trans ?_
    ·have hm:(decide ((0:Int)<(((l.drop 2).length:Nat):Int))&&zl (nth (l.drop 2) (0:Int) (zj .str)) ([109,117,115,116]:zf))=ZR (l.drop 2):=by
      unfold ZR
      cases l.drop 2 with
      | nil=>rfl
      | cons x r=>rw[decide_eq_true (by rw[List.length_cons]; omega)]; rfl
     rw[zb (λh=>TU (by have:=of_decide_eq_true h; omega)),hm]
     unfold bm
     cases q:ZR (l.drop 2)with
     | true =>
      have hp:0<(l.drop 2).length:=by
       cases h:l.drop 2 with
       | nil=>rw[h]at q; cases q
       | cons=>simp
      rw[zh,zb (eC.2 ⟨by omega,by omega,by omega⟩),d3]
      simp only[zq,T.zi,zo,z7]
      rfl
     | false =>
      rw[zg]
      simp only[zq,T.zi,zo,z7]
      rfl
    ·dsimp only
     refine(z6 (a:=((match NF (bm l)with | some _=>[] | none=>bm l),((),(xs,(bg,(vR,(cM,(cN,(cK,(wd l 1,((vR.length:Int)-1,(ZR (l.drop 2),((NF (bm l)).getD 0,())))))))))))) ) ?_ _).trans ?_
     ·refine(z6 (a:=((NF (bm l)).isSome,((),(xs,(bg,(vR,(cM,(cN,(cK,(wd l 1,((vR.length:Int)-1,(ZR (l.drop 2),((0:Int),())))))))))))) ) ?_ _).trans ?_
      ·have hk:(wc (bm l) (2:Int) (0:Int) ([115,99,97,108,101]:zf)).run=some (decide ((bm l).length=2)&&zl (wd (bm l) 0) [115,99,97,108,101]):=TI (bm l) 2 0 _ (by decide)
       rw[z6 hk]
       generalize bm l=w
       by_cases k:w.length=2/\zl (wd w 0) [115,99,97,108,101]=true
       ·rw[za (by rw[decide_eq_true k.1,k.2]; rfl),zb (fj (by omega))]
        match w,k with
        | [a,[]],k=>rw[z8 (by rfl)]; simp only[zq,T.zi,zo,z7]; rfl
        | [a,x::y::r],k =>
         rw[z8 (by rw[beq_eq_false_iff_ne]; show((List.length (x::y::r):Nat):Int)≠1; rw[List.length_cons,List.length_cons]; omega)]
         simp only[zq,T.zi,zo,z7]; rfl
        | [a,[c]],k =>
         have ha:zl a [115,99,97,108,101]=true:=k.2
         have e1:strLt (nth [a,[c]] (1:Int) (zj .str)) [48]=decide (c.toNat<48):=PX c 48
         have e2:strLt (nth [a,[c]] (1:Int) (zj .str)) [57]=decide (c.toNat<57):=PX c 57
         have e3:zl (nth [a,[c]] (1:Int) (zj .str)) [57]=decide (c.toNat=57):=by
          show zl [c] [57]=_
          rw[vx]
          by_cases h:c=57
          ·subst h; rfl
          ·rw[decide_eq_false (λq=>h (by injection q)),decide_eq_false (show ¬ c.toNat=57 from λq=>h (UInt8.toNat_inj.1 q))]
         rw[za (by rfl),zb (fj (by simp)),e1]
         by_cases g1:c.toNat<48
         ·rw[decide_eq_true g1,z8 (by rfl)]
          simp only[zq,T.zi,zo,z7]
          rw[Lt,if_neg (λh=>by have:=h.2.1; omega)]; rfl
         ·rw[decide_eq_false g1,za (by rfl),zb (fj (by simp)),e2,e3]
          simp only[zq,T.zi,zo,z7]
          rw[Lt]
          by_cases g2:c.toNat<=57
          ·rw[if_pos ⟨ha,by omega,g2⟩]
           have:(decide (c.toNat<57)||decide (c.toNat=57))=true:=by
            rw[Bool.or_eq_true,decide_eq_true_eq,decide_eq_true_eq]; omega
           rw[this]; rfl
          ·rw[if_neg (λh=>g2 h.2.2),decide_eq_false (by omega),decide_eq_false (by omega)]; rfl
       ·have hs:NF w=none:=by
         unfold NF
         split
         ·rename_i a c
          rw[if_neg (λh=>k ⟨rfl,h.1⟩)]
         ·rfl
        rw[z8 (by
         by_cases g:w.length=2
         ·rw[decide_eq_true g,Bool.true_and]
          cases h:zl (wd w 0) [115,99,97,108,101]with
          | false=>rfl
          | true=>exact absurd ⟨g,h⟩ k
         ·rw[decide_eq_false g]; rfl),hs]
        simp only[zq,T.zi,zo,z7]
        rfl
      ·dsimp only
       generalize bm l=w
       cases q:NF w with
       | none =>
        show(T.ite false _ _).run=_
        rw[zg]
        simp only[zq,T.zi,zo,z7]
        rfl
       | some v =>
        show(T.ite true _ _).run=_
        unfold NF at q
        split at q
        ·rename_i a c
         split at q
         ·rename_i h
          injection q with q
          have e4:zF (GW (qp (nth [a,[c]] (1:Int) (zj .str)) (0:Int)-48))=v:=by
           show zF (GW ((c.toNat:Int)-48))=v
           have:=h.2.1
           have:=h.2.2
           rw[Gv (by omega) (by omega),zB (by omega) (by omega)]
           exact q
          rw[zh,zb (fj (by simp)),zb (TU (by show 0<List.length [c]; simp)),e4]
          simp only[zq,T.zi,zo,z7]
          rfl
         ·cases q
        ·cases q
     ·dsimp only
      rw[mh _ rfl rfl rfl (by omega)]
      simp only[List.length_append,List.length_singleton,zq,T.zi,zo,z7]
      congr 2
      unfold DZ
      rw[if_pos c1]
      generalize bm l=w
      cases q:NF w with
      | some v =>
       cases w with
       | nil=>cases q
       | cons x r=>rw[UB,q]; rfl
      | none =>
       cases w with
       | nil=>rfl
       | cons x r =>
        rw[UB,q]
        show(((List.length (x::r):Nat):Int)==0)=decide ((2:Int)=0)
        rw[List.length_cons,beq_eq_false_iff_ne.2 (by omega)]; rfl
  ·intro h0
   unfold DZ at h0 ⊢
   rw[if_pos c1]at h0 ⊢
   generalize bm l=w at h0 ⊢
   cases q:Um w with
   | none=>rw[q]at h0; exact absurd h0 (show ¬ (2:Int)=0 by decide)
   | some v =>
    have:(NF w).getD 0=v:=by
     cases w with
     | nil=>injection q
     | cons x r=>rw[UB]at q; rw[q]; rfl
    rw[this]
 ·have e2:DZ vR.length l=(2,vP):=by unfold DZ; rw[if_neg c1]
  refine⟨[],?_,λh=>by rw[e2]at h; exact absurd h (by decide)⟩
  unfold ub
  rw[e2,List.append_nil]
  refine(z6 (a:=(true,((),(xs,(bg,(vR,(cM,(cN,cK)))))))) ?_ _).trans ?_
  ·by_cases k:2<=l.length
   ·rw[z8 (decide_eq_false (by omega)),zb (fj (by omega)),z6 (xI _)]
    show(T.ite (!q7 (wd l 1)) _ _).run=_
    cases h:q7 (wd l 1)with
    | false =>
     rw[za (by rfl)]
     simp only[zq,T.zi,zo,z7]
    | true =>
     rw[z8 (by rfl)]
     simp only[zq,T.zi,zo,z7]
     have:vR.length=0:=Classical.byContradiction λg=>c1 ⟨k,h,g⟩
     rw[this]; rfl
   ·rw[za (decide_eq_true (by omega))]
    simp only[zq,T.zi,zo,z7]
  ·dsimp only
   rw[zh]
   simp only[zq,T.zi,zo,z7]
   rfl
theorem Gl:∀ {s:zf} {l:zf} {c:Int} {r:zf},gB s=some (l,c,r)->c=0\/c=1\/c=2
 | [],_,_,_,h=>by cases h
 | b::s,l,c,r,h=>by
  unfold gB at h
  split at h
  ·injection h with h; injection h with _ h; injection h with h _; exact .inl h.symm
  ·split at h
   ·split at h
    ·injection h with h; injection h with _ h; injection h with h _; exact .inr (.inr h.symm)
    ·injection h with h; injection h with _ h; injection h with h _; exact .inr (.inl h.symm)
   ·split at h
    ·rename_i q
     injection h with h; injection h with _ h; injection h with h _
     rw[<- h]
     exact Gl q
    ·cases h
theorem Nn(s:zf):(kQ [60,61] s).2.2.2=(xe s).2.2.2/\((xe s).2.2.2=0->(kQ [60,61] s).1=(xe s).1/\(kQ [60,61] s).2.1=(xe s).2.1/\PL.tK (λt=>zl (kQ [60,61] s).2.2.1 t) 0 [[61],[60],[60,61]]=(xe s).2.2.1):=by
 unfold kQ xe
 cases h:gB s with
 | none=>exact⟨rfl,λh=>absurd h (by decide)⟩
 | some p =>
  obtain⟨l,c,r⟩:=p
  dsimp only
  have hc:=Gl h
  have hk:(0:Int)<=cZ [60,61] (bD c):=by rcases hc with rfl | rfl | rfl<;>decide
  by_cases e:(qJ l).2.2≠0
  ·rw[if_pos e,if_pos e]
   exact⟨rfl,λh=>absurd h e⟩
  ·rw[if_neg e,if_neg e]
   refine⟨if_neg (λh=>h.2 hk),λ_=>⟨rfl,rfl,?_⟩⟩
   show PL.tK (λt=>zl (bD c) t) 0 [[61],[60],[60,61]]=c
   rcases hc with rfl | rfl | rfl<;>decide
theorem OG(s:zf):(kQ [61] s).2.2.2=(if(xe s).2.2.2=0/\(xe s).2.2.1≠0 then 2 else(xe s).2.2.2)/\((kQ [61] s).2.2.2=0->(kQ [61] s).1=(xe s).1/\(kQ [61] s).2.1=(xe s).2.1):=by
 cases h:gB s with
 | none =>
  have h1:kQ [61] s=(zE,(zE,(([]:zf),(2:Int)))):=by unfold kQ; rw[h]
  have h2:xe s=(zE,(zE,((0:Int),(2:Int)))):=by unfold xe; rw[h]
  rw[h1,h2]
  exact⟨rfl,λh=>absurd h (by decide)⟩
 | some p =>
  obtain⟨l,c,r⟩:=p
  have hc:=Gl h
  have hk:(0:Int)<=cZ [61] (bD c)↔c=0:=by rcases hc with rfl | rfl | rfl<;>decide
  by_cases e:(qJ l).2.2≠0
  ·have h1:kQ [61] s=((qJ l).1,(zE,(([]:zf),(qJ l).2.2))):=by unfold kQ; rw[h]; exact if_pos e
   have h2:xe s=(zE,(zE,((0:Int),(qJ l).2.2))):=by unfold xe; rw[h]; exact if_pos e
   rw[h1,h2]
   exact⟨(if_neg (λh=>e h.1)).symm,λh=>absurd h e⟩
  ·have h1:kQ [61] s=((qJ l).1,((qJ r).1,(bD c,(if(qJ r).2.2=0/\¬ (0<=cZ [61] (bD c))then 2 else(qJ r).2.2)))):=by unfold kQ; rw[h]; exact if_neg e
   have h2:xe s=((qJ l).1,((qJ r).1,(c,(qJ r).2.2))):=by unfold xe; rw[h]; exact if_neg e
   rw[h1,h2]
   refine⟨?_,λ_=>⟨rfl,rfl⟩⟩
   simp only[ne_eq,hk]
theorem Jc(l:List zf)(rest:zf)(xs:List Switch)(bg:List Param)(vR:List xl)(cM:List Field)(cN:List qG)(cK:List Check)(hx:cK.length<=1000000)(Df:vR.length<=1000000)(hr:rest.length<=80000) :
  ∃ Q,(va l rest () xs bg vR cM cN cK).run=some ((Nz vR.length l rest).1,((),(xs,(bg,(vR,(cM,(cN,cK++Q)))))))/\((Nz vR.length l rest).1=0->Q=(Nz vR.length l rest).2.2.2.2.2.2):=by
 by_cases c1:l.length=2/\q7 (wd l 1)=true/\vR.length≠0
 ·have hw:zF (((vR.length:Nat):Int)-1)=(vR.length:Int)-1:=zB (by omega) (by omega)
  obtain⟨q1,q2⟩:=Nn rest
  have e0:Nz vR.length l rest=((xe rest).2.2.2,[],[],[],[],[],[(wd l 1,((vR.length:Int)-1,((xe rest).2.2.1,((xe rest).1,((xe rest).2.1,())))))]):=by unfold Nz; rw[if_pos c1]
  have hE:(vC rest [60,61]).run=some ((kQ [60,61] rest).1,((kQ [60,61] rest).2.1,((kQ [60,61] rest).2.2.1,(kQ [60,61] rest).2.2.2))):=Qo rest [60,61] hr (by decide)
  refine⟨[(wd l 1,((vR.length:Int)-1,(PL.tK (λt=>zl (kQ [60,61] rest).2.2.1 t) 0 [[61],[60],[60,61]],((kQ [60,61] rest).1,((kQ [60,61] rest).2.1,())))))],?_,?_⟩
  ·unfold va
   refine(z6 (a:=(false,((),(xs,(bg,(vR,(cM,(cN,cK)))))))) ?_ _).trans ?_
   ·rw[z8 (by rw[c1.1]; rfl),zb (fj (by omega)),z6 (xI _)]
    show(T.ite (!q7 (wd l 1)) _ _).run=_
    rw[c1.2.1,z8 (by rfl)]
    simp only[zq,T.zi,zo,z7]
    rw[beq_eq_false_iff_ne.2 (by omega)]
   ·dsimp only
    rw[zg,zb (fj (by omega)),z6 hE]
    dsimp only
    rw[show wM=.ret [[61],[60],[60,61]]from rfl,z6 (z7 _),z6 (s9 _ _ (by decide)),mh _ rfl rfl rfl (by omega),hw,eV,eV]
    simp only[List.length_append,List.length_singleton,zq,T.zi,zo,z7]
    rw[e0,q1]
    rfl
  ·intro h0
   rw[e0]at h0 ⊢
   obtain⟨g1,g2,g3⟩:=q2 h0
   rw[g1,g2,g3]
 ·have e2:Nz vR.length l rest=(2,vP):=by unfold Nz; rw[if_neg c1]
  refine⟨[],?_,λh=>by rw[e2]at h; exact absurd h (by decide)⟩
  unfold va
  rw[e2,List.append_nil]
  refine(z6 (a:=(true,((),(xs,(bg,(vR,(cM,(cN,cK)))))))) ?_ _).trans ?_
  ·by_cases k:l.length=2
   ·rw[z8 (by rw[k]; rfl),zb (fj (by omega)),z6 (xI _)]
    show(T.ite (!q7 (wd l 1)) _ _).run=_
    cases h:q7 (wd l 1)with
    | false =>
     rw[za (by rfl)]
     simp only[zq,T.zi,zo,z7]
    | true =>
     rw[z8 (by rfl)]
     simp only[zq,T.zi,zo,z7]
     have:vR.length=0:=Classical.byContradiction λg=>c1 ⟨k,h,g⟩
     rw[this]; rfl
   ·rw[za (by rw[bne_iff_ne]; omega)]
    simp only[zq,T.zi,zo,z7]
  ·dsimp only
   rw[zh]
   simp only[zq,T.zi,zo,z7]
theorem YF(l:List zf)(rest:zf)(xs:List Switch)(bg:List Param)(vR:List xl)(cM:List Field)(cN:List qG)(cK:List Check)(hx:cN.length<=1000000)(hr:rest.length<=80000) :
  ∃ Q,(wA l rest () xs bg vR cM cN cK).run=some ((Bs l rest).1,((),(xs,(bg,(vR,(cM,(cN++Q,cK)))))))/\((Bs l rest).1=0->Q=(Bs l rest).2.2.2.2.2.1):=by
 have hI:(qT [[114,101,113,117,105,114,101,100],[115,116,114,111,110,103],[109,101,100,105,117,109],[119,101,97,107]] (nth l (1:Int) (zj .str))).run=some (Ek (wd l 1)):=s9 _ _ (by decide)
 have hC:(wk [[114,101,113,117,105,114,101,100],[115,116,114,111,110,103],[109,101,100,105,117,109],[119,101,97,107]] (nth l (1:Int) (zj .str))).run=some (decide (0<=Ek (wd l 1))):=by
  unfold wk
  rw[z6 hI,z7]
 have hS:xK=.ret [[114,101,113,117,105,114,101,100],[115,116,114,111,110,103],[109,101,100,105,117,109],[119,101,97,107]]:=rfl
 by_cases c1:3<=l.length/\0<=Ek (wd l 1)/\q7 (wd l 2)=true
 ·have hg:(ka l (3:Int)).run=some ((GR l 3).1,(GR l 3).2):=X8 l 3 (by decide)
  obtain⟨q1,q2⟩:=OG rest
  have hE:(vC rest [61]).run=some ((kQ [61] rest).1,((kQ [61] rest).2.1,((kQ [61] rest).2.2.1,(kQ [61] rest).2.2.2))):=Qo rest [61] hr (by decide)
  by_cases c2:(GR l 3).2=true
  ·refine⟨[(wd l 2,(Ek (wd l 1),((GR l 3).1,((kQ [61] rest).1,((kQ [61] rest).2.1,())))))],?_,?_⟩
   ·unfold wA
    refine(z6 (a:=(false,((),(xs,(bg,(vR,(cM,(cN,cK)))))))) ?_ _).trans ?_
    ·rw[z8 (decide_eq_false (by omega)),hS,z6 (z7 _),zb (fj (by omega)),z6 hC,z8 (by rw[decide_eq_true c1.2.1]; rfl),zb (Cl (by omega)),z6 (xI _)]
     simp only[zq,T.zi,zo,z7]
     show some (!q7 (wd l 2),_)=_
     rw[c1.2.2]; rfl
    ·dsimp only
     rw[zg,z6 hg]
     dsimp only
     rw[c2,z8 (by rfl),zb (Cl (by omega)),hS,z6 (z7 _),zb (fj (by omega)),z6 hI,z6 hE]
     dsimp only
     rw[mh _ rfl rfl rfl (by omega),eV,eV]
     simp only[List.length_append,List.length_singleton,zq,T.zi,zo,z7]
     have:(kQ [61] rest).2.2.2=(Bs l rest).1:=by
      unfold Bs
      rw[if_pos ⟨c1.1,c1.2.1,c1.2.2,c2⟩,q1]
      split<;>rfl
     rw[this]
     rfl
   ·intro h0
    unfold Bs at h0 ⊢
    rw[if_pos ⟨c1.1,c1.2.1,c1.2.2,c2⟩]at h0 ⊢
    by_cases k:(xe rest).2.2.2=0/\(xe rest).2.2.1≠0
    ·rw[if_pos k]at h0; exact absurd h0 (by decide)
    ·rw[if_neg k]at h0 ⊢ q1
     obtain⟨g1,g2⟩:=q2 (q1.trans h0)
     rw[g1,g2]
  ·have e2:Bs l rest=(2,vP):=by unfold Bs; rw[if_neg (λh=>c2 h.2.2.2)]
   refine⟨[],?_,λh=>by rw[e2]at h; exact absurd h (by decide)⟩
   unfold wA
   rw[e2,List.append_nil]
   refine(z6 (a:=(false,((),(xs,(bg,(vR,(cM,(cN,cK)))))))) ?_ _).trans ?_
   ·rw[z8 (decide_eq_false (by omega)),hS,z6 (z7 _),zb (fj (by omega)),z6 hC,z8 (by rw[decide_eq_true c1.2.1]; rfl),zb (Cl (by omega)),z6 (xI _)]
    simp only[zq,T.zi,zo,z7]
    show some (!q7 (wd l 2),_)=_
    rw[c1.2.2]; rfl
   ·dsimp only
    rw[zg,z6 hg]
    dsimp only
    rw[za (by cases h:(GR l 3).2 with | false=>rfl | true=>exact absurd h c2)]
    simp only[zq,T.zi,zo,z7]
 ·have e2:Bs l rest=(2,vP):=by unfold Bs; rw[if_neg (λh=>c1 ⟨h.1,h.2.1,h.2.2.1⟩)]
  refine⟨[],?_,λh=>by rw[e2]at h; exact absurd h (by decide)⟩
  unfold wA
  rw[e2,List.append_nil]
  refine(z6 (a:=(true,((),(xs,(bg,(vR,(cM,(cN,cK)))))))) ?_ _).trans ?_
  ·by_cases k:3<=l.length
   ·rw[z8 (decide_eq_false (by omega)),hS,z6 (z7 _),zb (fj (by omega)),z6 hC]
    by_cases k2:0<=Ek (wd l 1)
    ·rw[z8 (by rw[decide_eq_true k2]; rfl),zb (Cl (by omega)),z6 (xI _)]
     simp only[zq,T.zi,zo,z7]
     show some (!q7 (wd l 2),_)=_
     cases h:q7 (wd l 2)with
     | false=>rfl
     | true=>exact absurd ⟨k,k2,h⟩ c1
    ·rw[za (by rw[decide_eq_false k2]; rfl)]
     simp only[zq,T.zi,zo,z7]
   ·rw[za (decide_eq_true (by omega))]
    simp only[zq,T.zi,zo,z7]
  ·dsimp only
   rw[zh]
   simp only[zq,T.zi,zo,z7]
def Sz(w:zf):Bool:=match w with | b::_=>decide (b=35) | []=>false
def oy(np:Nat)(l:List zf)(rest:zf)(colon:Bool):Int×Zp:=match l with
 | []=>if colon=true then(2,vP)else(0,vP)
 | w::_=>if Sz w=true then(0,vP)else
   if colon=true then(if zl w [99,104,101,99,107]=true then Nz np l rest else if zl w [114,117,108,101]=true then Bs l rest else(2,vP))
   else if zl w [115,119,105,116,99,104]=true then Ny l else if zl w [112,97,114,97,109]=true then Cy l
   else if zl w [112,97,103,101]=true then CB l else if zl w [102,105,101,108,100]=true then DZ np l else(2,vP)
theorem uO(np:Nat)(w:zf)(r:List zf)(rest:zf)(colon:Bool):oy np (w::r) rest colon=if Sz w=true then(0,vP)else
   if colon=true then(if zl w [99,104,101,99,107]=true then Nz np (w::r) rest else if zl w [114,117,108,101]=true then Bs (w::r) rest else(2,vP))
   else if zl w [115,119,105,116,99,104]=true then Ny (w::r)else if zl w [112,97,114,97,109]=true then Cy (w::r)
   else if zl w [112,97,103,101]=true then CB (w::r)else if zl w [102,105,101,108,100]=true then DZ np (w::r)else(2,vP):=rfl
def kJ(np:Nat)(line:zf):Int×Zp:=oy np (bE 32 [] (uD line [58]).1) (uD line [58]).2.1 (uD line [58]).2.2
theorem WJ(c:UInt8):∀ (s cur:zf),∀ w∈bE c cur s,w≠[]/\w.length<=cur.length+s.length
 | [],cur,w,h=>by
  unfold bE at h
  split at h
  ·cases h
  ·rename_i hc
   rw[List.mem_singleton.1 h]
   exact⟨hc,by omega⟩
 | b::r,cur,w,h=>by
  unfold bE at h
  split at h
  ·split at h
   ·have:=WJ c r [] w h
    exact⟨this.1,by have:=this.2; simp only[List.length_cons,List.length_nil]at *; omega⟩
   ·rename_i hc
    rcases List.mem_cons.1 h with rfl | h
    ·exact⟨hc,by omega⟩
    ·have:=WJ c r [] w h
     exact⟨this.1,by have:=this.2; simp only[List.length_cons,List.length_nil]at *; omega⟩
  ·have:=WJ c r (cur++[b]) w h
   exact⟨this.1,by have:=this.2; simp only[List.length_append,List.length_cons,List.length_nil]at *; omega⟩
structure SmS(xs:List Switch)(bg:List Param)(vR:List xl)(cM:List Field)(cN:List qG)(cK:List Check):Prop where
 l0:xs.length<=1000000
 l1:bg.length<=1000000
 l2:vR.length<=1000000
 l3:cM.length<=1000000
 l4:cN.length<=1000000
 l5:cK.length<=1000000
def X2(xs:List Switch)(bg:List Param)(vR:List xl)(cM:List Field)(cN:List qG)(cK:List Check)(D:Zp):List Switch×List Param×List xl×List Field×List qG×List Check :=
 (xs++D.1,(bg++D.2.1,(vR++D.2.2.1,(cM++D.2.2.2.1,(cN++D.2.2.2.2.1,cK++D.2.2.2.2.2)))))
theorem Ws(xs:List Switch)(bg:List Param)(vR:List xl)(cM:List Field)(cN:List qG)(cK:List Check):X2 xs bg vR cM cN cK vP=(xs,(bg,(vR,(cM,(cN,cK))))):=by
 unfold X2 vP
 simp only[List.append_nil]
theorem Sr(line:zf)(hl:line.length<=80000)(xs:List Switch)(bg:List Param)(vR:List xl)(cM:List Field)(cN:List qG)(cK:List Check)(h:SmS xs bg vR cM cN cK) :
  ∃ D,(du line () xs bg vR cM cN cK).run=some ((kJ vR.length line).1,((),X2 xs bg vR cM cN cK D))/\((kJ vR.length line).1=0->D=(kJ vR.length line).2):=by
 obtain⟨h0,h1,h2,h3,h4,h5⟩:=h
 have hC:(strings_Cut line [58]).run=some ((uD line [58]).1,((uD line [58]).2.1,(uD line [58]).2.2)):=by
  unfold strings_Cut
  rw[zb (by omega),z7]
 have hlen:=LP line 58
 unfold du kJ
 rw[z6 hC]
 dsimp only
 rw[z6 (MB _ (by omega))]
 have hm:=WJ 32 (uD line [58]).1 []
 generalize bE 32 [] (uD line [58]).1=l at hm ⊢
 obtain⟨_,hr⟩:=hlen
 generalize (uD line [58]).2.1=rest at hr ⊢
 generalize (uD line [58]).2.2=colon
 cases l with
 | nil =>
  refine⟨vP,?_,?_⟩
  ·rw[zb ⟨(λ_ _ h=>by simp at h),(λh=>by simp at h)⟩,Ws]
   cases colon with
   | false =>
    rw[za (by rfl)]
    simp only[zq,T.zi,zo,z7]
    rfl
   | true =>
    rw[z8 (by rfl),za (by rfl),za (by rfl)]
    simp only[zq,T.zi,zo,z7]
    rfl
  ·intro h
   cases colon with
   | false=>rfl
   | true=>exact absurd h (show ¬ (2:Int)=0 by decide)
 | cons w r =>
  obtain⟨m1,m2⟩:=hm w List.mem_cons_self
  cases w with
  | nil=>exact absurd rfl m1
  | cons b q =>
  have hL:(((((b::q)::r).length:Nat):Int)==(0:Int))=false:=by rw[List.length_cons,beq_eq_false_iff_ne]; omega
  have hP:decide ((0:Int)<((((b::q)::r).length:Nat):Int))=true:=by rw[List.length_cons]; exact decide_eq_true (by omega)
  have Db:qz (0:Int) ((b::q)::r).length:=TU (by simp)
  have h0w:qz (0:Int) (nth ((b::q)::r) (0:Int) (zj .str)).length:=TU (by show 0<(b::q).length; simp)
  have hb:(qp (nth ((b::q)::r) (0:Int) (zj .str)) (0:Int)==(35:Int))=decide (b=35):=P0 b 35
  have hw:nth ((b::q)::r) (0:Int) (zj .str)=b::q:=rfl
  rw[zb ⟨λ_ _ _=>⟨Db,h0w⟩,λ_ _=>⟨Db,h0w⟩⟩,hL,hb,hP]
  simp only[cond_false,Bool.true_and]
  by_cases c:b=35
  ·have e:oy vR.length ((b::q)::r) rest colon=(0,vP):=if_pos (decide_eq_true c)
   rw[e]
   refine⟨vP,?_,λ_=>rfl⟩
   rw[za (decide_eq_true c),Ws]
   simp only[zq,T.zi,zo,z7]
  ·rw[z8 (decide_eq_false c),zg,zb (λ_=>Db),hw]
   have hn:¬ (Sz (b::q)=true):=λh=>c (of_decide_eq_true h)
   cases colon with
   | true =>
    by_cases k1:zl (b::q) [99,104,101,99,107]=true
    ·have e:oy vR.length ((b::q)::r) rest true=Nz vR.length ((b::q)::r) rest:=by
      rw[uO,if_neg hn,if_pos rfl,if_pos k1]
     obtain⟨Q,g1,g2⟩:=Jc ((b::q)::r) rest xs bg vR cM cN cK h5 h2 (by omega)
     rw[e]
     refine⟨([],[],[],[],[],Q),?_,λh => ?_⟩
     ·rw[za (by rw[k1]; rfl)]
      simp only[zq,T.zi,zo]
      rw[z6 g1]
      dsimp only
      simp only[zq,T.zi,zo,z7]
      unfold X2
      simp only[List.append_nil]
     ·rw[g2 h]
      unfold Nz at h ⊢
      split at h
      ·rename_i d; rw[if_pos d]
      ·exact absurd h (by decide)
    ·by_cases k2:zl (b::q) [114,117,108,101]=true
     ·have e:oy vR.length ((b::q)::r) rest true=Bs ((b::q)::r) rest:=by
       rw[uO,if_neg hn,if_pos rfl,if_neg k1,if_pos k2]
      obtain⟨Q,g1,g2⟩:=YF ((b::q)::r) rest xs bg vR cM cN cK h4 (by omega)
      rw[e]
      refine⟨([],[],[],[],Q,[]),?_,λh => ?_⟩
      ·rw[z8 (by rw[Bool.eq_false_iff.2 k1]; rfl),zb (λ_=>Db),za (by rw[k2]; rfl)]
       simp only[zq,T.zi,zo]
       rw[z6 g1]
       dsimp only
       simp only[zq,T.zi,zo,z7]
       unfold X2
       simp only[List.append_nil]
      ·rw[g2 h]
       unfold Bs at h ⊢
       split at h
       ·rename_i d
        rw[if_pos d]
        split at h
        ·exact absurd h (by decide)
        ·rename_i d2; rw[if_neg d2]
       ·exact absurd h (by decide)
     ·have e:oy vR.length ((b::q)::r) rest true=(2,vP):=by
       rw[uO,if_neg hn,if_pos rfl,if_neg k1,if_neg k2]
      rw[e]
      refine⟨vP,?_,λ_=>rfl⟩
      rw[z8 (by rw[Bool.eq_false_iff.2 k1]; rfl),zb (λ_=>Db),z8 (by rw[Bool.eq_false_iff.2 k2]; rfl),zh,za (by rfl),Ws]
      simp only[zq,T.zi,zo,z7]
   | false =>
    have fin:∀ (v:Int),v=0\/v=2->∀ (ys:List Switch) (ys1:List Param) (ys2:List xl) (ys3:List Field) (ys4:List qG) (ys5:List Check),(T.ite (!decide (v=0)) (.ret ((2:Int),((),(ys,(ys1,(ys2,(ys3,(ys4,ys5)))))))) (.ret ((0:Int),((),(ys,(ys1,(ys2,(ys3,(ys4,ys5)))))))):T (Int×Unit×List Switch×List Param×List xl×List Field×List qG×List Check)).run=some (v,((),(ys,(ys1,(ys2,(ys3,(ys4,ys5))))))):=by
     intro v hv ys ys1 ys2 ys3 ys4 ys5
     rcases hv with rfl | rfl<;>rfl
    rw[z8 (by rfl),zb (λh=>by cases h),z8 (by rfl),zg,zb Db]
    by_cases k1:zl (b::q) [115,119,105,116,99,104]=true
    ·have e:oy vR.length ((b::q)::r) rest false=Ny ((b::q)::r):=by
      rw[uO,if_neg hn,if_neg (by decide),if_pos k1]
     have g1:=GI ((b::q)::r) xs bg vR cM cN cK h0
     rw[e]
     refine⟨((Ny ((b::q)::r)).2.1,[],[],[],[],[]),?_,λh => ?_⟩
     ·rw[za k1]
      simp only[zq,T.zi,zo]
      rw[z6 g1]
      dsimp only
      unfold X2
      simp only[List.append_nil]
      have:(Ny ((b::q)::r)).1=0\/(Ny ((b::q)::r)).1=2:=by unfold Ny; split; exact .inl rfl; exact .inr rfl
      rcases this with h | h<;>rw[h]
      ·rw[z8 (by rfl)]; simp only[zq,T.zi,zo,z7]
      ·rw[za (by rfl)]; simp only[zq,T.zi,zo,z7]
     ·unfold Ny at h ⊢
      split at h
      ·rename_i d; rw[if_pos d]
      ·exact absurd h (by decide)
    ·by_cases k2:zl (b::q) [112,97,114,97,109]=true
     ·have e:oy vR.length ((b::q)::r) rest false=Cy ((b::q)::r):=by
       rw[uO,if_neg hn,if_neg (by decide),if_neg k1,if_pos k2]
      obtain⟨Q,g1,g2⟩:=BC ((b::q)::r) xs bg vR cM cN cK h1 (λs hs=>by have:=(hm s hs).2; simp only[List.length_nil]at this; omega)
      rw[e]
      refine⟨([],Q,[],[],[],[]),?_,λh => ?_⟩
      ·rw[z8 (Bool.eq_false_iff.2 k1),zb Db,za k2]
       simp only[zq,T.zi,zo]
       rw[z6 g1]
       dsimp only
       unfold X2
       simp only[List.append_nil]
       have:(Cy ((b::q)::r)).1=0\/(Cy ((b::q)::r)).1=2:=by unfold Cy; split; split; exact .inl rfl; exact .inr rfl; exact .inr rfl
       rcases this with h | h<;>rw[h]
       ·rw[z8 (by rfl)]; simp only[zq,T.zi,zo,z7]
       ·rw[za (by rfl)]; simp only[zq,T.zi,zo,z7]
      ·rw[g2 h]
       unfold Cy at h ⊢
       split at h
       ·rename_i d
        rw[if_pos d]
        cases hd:Gx (wd ((b::q)::r) 2)with
        | none=>rw[hd]at h; exact absurd h (show ¬ (2:Int)=0 by decide)
        | some v=>rfl
       ·exact absurd h (by decide)
     ·by_cases k3:zl (b::q) [112,97,103,101]=true
      ·have e:oy vR.length ((b::q)::r) rest false=CB ((b::q)::r):=by
        rw[uO,if_neg hn,if_neg (by decide),if_neg k1,if_neg k2,if_pos k3]
       obtain⟨Q,g1,g2⟩:=Gn ((b::q)::r) xs bg vR cM cN cK h2
       rw[e]
       refine⟨([],[],Q,[],[],[]),?_,λh => ?_⟩
       ·rw[z8 (Bool.eq_false_iff.2 k1),zb Db,z8 (Bool.eq_false_iff.2 k2),zb Db,za k3]
        simp only[zq,T.zi,zo]
        rw[z6 g1]
        dsimp only
        unfold X2
        simp only[List.append_nil]
        have:(CB ((b::q)::r)).1=0\/(CB ((b::q)::r)).1=2:=by unfold CB; split; exact .inl rfl; exact .inr rfl
        rcases this with h | h<;>rw[h]
        ·rw[z8 (by rfl)]; simp only[zq,T.zi,zo,z7]
        ·rw[za (by rfl)]; simp only[zq,T.zi,zo,z7]
       ·rw[g2 h]
        unfold CB at h ⊢
        split at h
        ·rename_i d; rw[if_pos d]
        ·exact absurd h (by decide)
      ·by_cases k4:zl (b::q) [102,105,101,108,100]=true
       ·have e:oy vR.length ((b::q)::r) rest false=DZ vR.length ((b::q)::r):=by
         rw[uO,if_neg hn,if_neg (by decide),if_neg k1,if_neg k2,if_neg k3,if_pos k4]
        obtain⟨Q,g1,g2⟩:=Jg ((b::q)::r) xs bg vR cM cN cK h3 h2
        rw[e]
        refine⟨([],[],[],Q,[],[]),?_,λh => ?_⟩
        ·rw[z8 (Bool.eq_false_iff.2 k1),zb Db,z8 (Bool.eq_false_iff.2 k2),zb Db,z8 (Bool.eq_false_iff.2 k3),zb Db,za k4]
         simp only[zq,T.zi,zo]
         rw[z6 g1]
         dsimp only
         unfold X2
         simp only[List.append_nil]
         have:(DZ vR.length ((b::q)::r)).1=0\/(DZ vR.length ((b::q)::r)).1=2:=by unfold DZ; split; split; exact .inl rfl; exact .inr rfl; exact .inr rfl
         rcases this with h | h<;>rw[h]
         ·rw[z8 (by rfl)]; simp only[zq,T.zi,zo,z7]
         ·rw[za (by rfl)]; simp only[zq,T.zi,zo,z7]
        ·rw[g2 h]
         unfold DZ at h ⊢
         split at h
         ·rename_i d
          rw[if_pos d]
          cases hd:Um (bm ((b::q)::r))with
          | none=>rw[hd]at h; exact absurd h (show ¬ (2:Int)=0 by decide)
          | some v=>rfl
         ·exact absurd h (by decide)
       ·have e:oy vR.length ((b::q)::r) rest false=(2,vP):=by
         rw[uO,if_neg hn,if_neg (by decide),if_neg k1,if_neg k2,if_neg k3,if_neg k4]
        rw[e]
        refine⟨vP,?_,λ_=>rfl⟩
        rw[z8 (Bool.eq_false_iff.2 k1),zb Db,z8 (Bool.eq_false_iff.2 k2),zb Db,z8 (Bool.eq_false_iff.2 k3),zb Db,z8 (Bool.eq_false_iff.2 k4),za (by rfl),Ws]
        simp only[zq,T.zi,zo,z7]
abbrev Jd(S D:Zp):Zp:=X2 S.1 S.2.1 S.2.2.1 S.2.2.2.1 S.2.2.2.2.1 S.2.2.2.2.2 D
def bA:List zf->Zp->Nat->(Nat×Int)⊕Zp
 | [],S,_=>.inr S
 | line::r,S,k=>if(kJ S.2.2.1.length line).1=0 then bA r (Jd S (kJ S.2.2.1.length line).2) (k+1)else .inl (k+1,(kJ S.2.2.1.length line).1)
def Ip(S:Zp):Form:=(S.1,(S.2.1,(S.2.2.1,(S.2.2.2.1,(S.2.2.2.2.1,(S.2.2.2.2.2,()))))))
def noF:Form:=(([]:List Switch),(([]:List Param),(([]:List xl),(([]:List Field),(([]:List qG),(([]:List Check),()))))))
def CF(s:zf):Form×Int×Int:=if 16384<s.length then(noF,(0,3))else match bA (cQ 10 s) vP 0 with
 | .inl (k,e)=>(noF,((k:Int),e))
 | .inr S=>if sS (Ip S)=true then(Ip S,(0,0))else(noF,(0,2))
structure GS(S:Zp):Prop where
 s:∀ x∈S.1,x.1.length<=600
 p:∀ x∈S.2.1,x.1.length<=600/\wW 100 x.2.1
 g:∀ x∈S.2.2.1,x.1.length<=600/\x.2.1.length<=600
 d:∀ x∈S.2.2.2.1,x.1.length<=600
 r:∀ x∈S.2.2.2.2.1,x.1.length<=600/\x.2.2.1.length<=600/\vG x.2.2.2.1/\vG x.2.2.2.2.1
 c:∀ x∈S.2.2.2.2.2,x.1.length<=600/\vG x.2.2.2.1/\vG x.2.2.2.2.1
def I0(S:Zp):Nat:=S.1.length+S.2.1.length+S.2.2.1.length+S.2.2.2.1.length+S.2.2.2.2.1.length+S.2.2.2.2.2.length
theorem z3q:GS vP:=⟨(λ_ h=>by cases h),(λ_ h=>by cases h),(λ_ h=>by cases h),(λ_ h=>by cases h),(λ_ h=>by cases h),(λ_ h=>by cases h)⟩
theorem z4r{S D:Zp}(h:GS S)(k:GS D):GS (Jd S D) :=
 ⟨λx hx=>(List.mem_append.1 hx).elim (h.s x) (k.s x),λx hx=>(List.mem_append.1 hx).elim (h.p x) (k.p x),λx hx=>(List.mem_append.1 hx).elim (h.g x) (k.g x),
  λx hx=>(List.mem_append.1 hx).elim (h.d x) (k.d x),λx hx=>(List.mem_append.1 hx).elim (h.r x) (k.r x),λx hx=>(List.mem_append.1 hx).elim (h.c x) (k.c x)⟩
theorem IX(S D:Zp):I0 (Jd S D)=I0 S+I0 D:=by
 unfold I0 Jd X2
 simp only[List.length_append]
 omega
theorem WT{s:zf}(h:q7 s=true):s.length<=600:=by have:=(sX h).1; omega
theorem Fx(w:List zf)(n:Nat):(GR w n).1.length<=600:=by
 unfold GR
 split
 ·exact Nat.zero_le _
 ·split
  ·rename_i h; exact WT h.2.2
  ·exact Nat.zero_le _
theorem z1s{s:zf}{r:Rat}(h:Gx s=some r):wW 100 r:=by
 have:Rq s=some r:=by
  unfold Rq
  unfold Gx at h
  split at h
  ·cases h
  ·rename_i c
   rw[if_neg c]
   cases q:Jv s with
   | none=>rw[q]at h; cases h
   | some p=>rw[q]at h; exact h
 have h2:=z08 this
 exact⟨h2.1,h2.2.1,by have:=h2.2.2.1; omega,by have:=h2.2.2.2; omega⟩
theorem Ha(s:zf):vG (xe s).1/\vG (xe s).2.1:=by
 have hz:vG zE:=ri (by decide) Wr.1
 unfold xe
 split
 ·exact⟨hz,hz⟩
 ·split
  ·exact⟨hz,hz⟩
  ·exact⟨Vf _,Vf _⟩
theorem ry{α:Type}{x y:α}{p:α->Prop}(h:p x)(hy:y∈[x]):p y:=by rw[List.mem_singleton.1 hy]; exact h
theorem KC(np:Nat)(line:zf):GS (kJ np line).2/\I0 (kJ np line).2<=1:=by
 have hz:GS vP/\I0 vP<=1:=⟨z3q,by decide⟩
 unfold kJ
 generalize bE 32 [] (uD line [58]).1=l
 generalize (uD line [58]).2.1=rest
 generalize (uD line [58]).2.2=colon
 cases l with
 | nil=>cases colon; exact hz; exact hz
 | cons w r =>
  rw[uO]
  split
  ·exact hz
  ·split
   ·split
    ·unfold Nz
     split
     ·rename_i h
      exact⟨⟨(λ_ h=>by cases h),(λ_ h=>by cases h),(λ_ h=>by cases h),(λ_ h=>by cases h),(λ_ h=>by cases h),λy hy=>ry (p:=λx:Check=>x.1.length<=600/\vG x.2.2.2.1/\vG x.2.2.2.2.1) ⟨WT h.2.1,Ha rest⟩ hy⟩,Nat.le_refl 1⟩
     ·exact hz
    ·split
     ·unfold Bs
      split
      ·rename_i h
       split
       ·exact hz
       ·exact⟨⟨(λ_ h=>by cases h),(λ_ h=>by cases h),(λ_ h=>by cases h),(λ_ h=>by cases h),λy hy=>ry (p:=λx:qG=>x.1.length<=600/\x.2.2.1.length<=600/\vG x.2.2.2.1/\vG x.2.2.2.2.1) ⟨WT h.2.2.1,Fx _ _,Ha rest⟩ hy,(λ_ h=>by cases h)⟩,Nat.le_refl 1⟩
      ·exact hz
     ·exact hz
   ·split
    ·unfold Ny
     split
     ·rename_i h
      exact⟨⟨λy hy=>ry (p:=λx:Switch=>x.1.length<=600) (WT h.2.1) hy,(λ_ h=>by cases h),(λ_ h=>by cases h),(λ_ h=>by cases h),(λ_ h=>by cases h),(λ_ h=>by cases h)⟩,Nat.le_refl 1⟩
     ·exact hz
    ·split
     ·unfold Cy
      split
      ·rename_i h
       cases hd:Gx (wd (w::r) 2)with
       | none=>exact hz
       | some v=>exact⟨⟨(λ_ h=>by cases h),λy hy=>ry (p:=λx:Param=>x.1.length<=600/\wW 100 x.2.1) ⟨WT h.2,z1s hd⟩ hy,(λ_ h=>by cases h),(λ_ h=>by cases h),(λ_ h=>by cases h),(λ_ h=>by cases h)⟩,Nat.le_refl 1⟩
      ·exact hz
     ·split
      ·unfold CB
       split
       ·rename_i h
        exact⟨⟨(λ_ h=>by cases h),(λ_ h=>by cases h),λy hy=>ry (p:=λx:xl=>x.1.length<=600/\x.2.1.length<=600) ⟨WT h.2.1,Fx _ _⟩ hy,(λ_ h=>by cases h),(λ_ h=>by cases h),(λ_ h=>by cases h)⟩,Nat.le_refl 1⟩
       ·exact hz
      ·split
       ·unfold DZ
        split
        ·rename_i h
         cases hd:Um (bm (w::r))with
         | none=>exact hz
         | some v=>exact⟨⟨(λ_ h=>by cases h),(λ_ h=>by cases h),(λ_ h=>by cases h),λy hy=>ry (p:=λx:Field=>x.1.length<=600) (WT h.2.1) hy,(λ_ h=>by cases h),(λ_ h=>by cases h)⟩,Nat.le_refl 1⟩
        ·exact hz
       ·exact hz
theorem U2:∀ (ls:List zf) (S:Zp) (k:Nat) (S':Zp),bA ls S k=.inr S'->GS S->GS S'/\I0 S'<=I0 S+ls.length
 | [],S,k,S',h,hg=>by
  injection h with h
  subst h
  exact⟨hg,Nat.le_refl _⟩
 | line::r,S,k,S',h,hg=>by
  unfold bA at h
  split at h
  ·obtain⟨a1,a2⟩:=KC S.2.2.1.length line
   have:=U2 r _ _ S' h (z4r hg a1)
   rw[IX]at this
   exact⟨this.1,by have:=this.2; rw[List.length_cons]; omega⟩
  ·cases h
theorem YW(c:UInt8):∀ s:zf,(cQ c s).length<=s.length+1
 | []=>Nat.le_refl _
 | b::r=>by
  have:=YW c r
  unfold cQ
  split
  ·rw[List.length_cons,List.length_cons]; omega
  ·cases h:cQ c r with
   | nil=>simp[PZ]
   | cons x y=>rw[h]at this; simp only[PZ,List.length_cons]at *; omega
theorem F8(c:UInt8):∀ (s:zf),∀ l∈cQ c s,l.length<=s.length
 | [],l,h=>by rw[show cQ c []=[[]]from rfl]at h; rw[List.mem_singleton.1 h]; exact Nat.le_refl _
 | b::r,l,h=>by
  have ih:=F8 c r
  unfold cQ at h
  split at h
  ·rcases List.mem_cons.1 h with rfl | h
   ·exact Nat.zero_le _
   ·have:=ih l h; rw[List.length_cons]; omega
  ·cases q:cQ c r with
   | nil=>rw[q]at h; rw[List.mem_singleton.1 (show l∈[[b]]from h)]; simp
   | cons x y =>
    rw[q]at h ih
    rcases List.mem_cons.1 (show l∈(b::x)::y from h)with rfl | h
    ·have:=ih x List.mem_cons_self; rw[List.length_cons,List.length_cons]; omega
    ·have:=ih l (List.mem_cons_of_mem _ h); rw[List.length_cons]; omega
theorem z6C{S:Zp}(h:I0 S<=1000000):SmS S.1 S.2.1 S.2.2.1 S.2.2.2.1 S.2.2.2.2.1 S.2.2.2.2.2:=by
 unfold I0 at h
 exact⟨by omega,by omega,by omega,by omega,by omega,by omega⟩
theorem z0D{α:Type}(l:List α):List.drop (0:Nat) (List.take ((0:Nat)+l.length) l)=l:=by rw[Nat.zero_add,List.take_length,List.drop_zero]
def stL(S:Zp):List Check×List Check×List qG×List qG×List Switch×List Switch×List Param×List Param×List xl×List xl×List Field×List Field:=([],(S.2.2.2.2.2,([],(S.2.2.2.2.1,([],(S.1,([],(S.2.1,([],(S.2.2.1,([],S.2.2.2.1)))))))))))
theorem We(s:zf)(hF:∀ S,bA (cQ 10 s) vP 0=.inr S->FS (Ip S)):(cd s).run=some (CF s):=by
 unfold cd CF
 by_cases hs:16384<s.length
 ·rw[if_pos hs,za (decide_eq_true (by omega)),z7]
  rfl
 ·rw[if_neg hs,z8 (decide_eq_false (by omega))]
  have nN:(strings_Split s [10]).run=some (cQ 10 s):=by
   unfold strings_Split
   rw[zb ⟨by omega,rfl⟩,z7]
   rfl
  rw[z6 nN]
  have hln:=YW 10 s
  have hmm:=F8 10 s
  generalize cQ 10 s=ls at hln hmm hF ⊢
  have key:∀ (m k:Nat) (S:Zp),k+m=ls.length->I0 S<=k->∃ R,(dZ ls (ls.length:Int) ((k:Int),((),((),stL S)))).run=some R /\
    (match bA (ls.drop k) S k with
     | .inl (n,e)=>∃ Z,R=.inr ((n:Int),(e,(noF,Z)))
     | .inr S'=>R=.inl ((),((),stL S'))):=by
   intro m
   induction m with
   | zero =>
    intro k S hk ht
    have:k=ls.length:=by omega
    subst this
    rw[List.drop_length]
    refine⟨.inl ((),((),stL S)),qw ?_,rfl⟩
    unfold jD stL
    dsimp only
    rw[z8 (jy _)]
    simp only[zq,T.zi,zo,z7]
   | succ m ih =>
    intro k S hk ht
    have h1:k<ls.length:=by omega
    have hd:=List.drop_eq_getElem_cons h1
    obtain⟨D,g1,g2⟩:=Sr ls[k] (by have:=hmm _ (List.getElem_mem h1); omega) S.1 S.2.1 S.2.2.1 S.2.2.2.1 S.2.2.2.2.1 S.2.2.2.2.2 (z6C (by omega))
    rw[hd]
    unfold bA
    by_cases c:(kJ S.2.2.1.length ls[k]).1=0
    ·rw[if_pos c]
     have hD:=g2 c
     subst hD
     obtain⟨a1,a2⟩:=KC S.2.2.1.length ls[k]
     obtain⟨R,r1,r2⟩:=ih (k+1) (Jd S (kJ S.2.2.1.length ls[k]).2) (by omega) (by rw[IX]; omega)
     refine⟨R,?_,r2⟩
     refine(wU (s':=(((k+1:Nat):Int),((),((),stL (Jd S (kJ S.2.2.1.length ls[k]).2))))) ?_).trans r1
     unfold jD stL
     dsimp only
     rw[za (ua h1),zb (zW h1),uN h1]
     simp only[zq,T.zi,zo]
     rw[z6 g1,c]
     unfold X2
     dsimp only
     rw[z8 (by rfl)]
     simp only[zq,T.zi,zo,z7]
     rw[fB k _ h1 (by omega)]
     rfl
    ·rw[if_neg c]
     refine⟨.inr (((k+1:Nat):Int),((kJ S.2.2.1.length ls[k]).1,(noF,((),stL (Jd S D))))),qw ?_,_,rfl⟩
     ·unfold jD stL
      dsimp only
      rw[za (ua h1),zb (zW h1),uN h1]
      simp only[zq,T.zi,zo]
      rw[z6 g1]
      unfold X2
      dsimp only
      rw[za (by simpa using c)]
      simp only[zq,T.zi,zo,z7]
      rw[fB k _ h1 (by omega)]
      rfl
  obtain⟨R,r1,r2⟩:=key ls.length 0 vP (by omega) (Nat.le_refl _)
  rw[List.drop_zero]at r2
  have r1:(dZ ls (ls.length:Int) ((0:Int),((),((),(([]:List Check),(([]:List Check),(([]:List qG),(([]:List qG),(([]:List Switch),(([]:List Switch),(([]:List Param),(([]:List Param),(([]:List xl),(([]:List xl),(([]:List Field),([]:List Field)))))))))))))))).run=some R:=r1
  simp only[zq,T.zi,zo]
  rw[z6 r1]
  cases q:bA ls vP 0 with
  | inl p =>
   obtain⟨n,e⟩:=p
   rw[q]at r2
   obtain⟨Z,rfl⟩:=r2
   rfl
  | inr S =>
   rw[q]at r2
   dsimp only at r2
   rw[r2,Sum.elim_inl]
   unfold stL
   dsimp only
   simp only[z0D,zq,T.zi,zo]
   have hI:(dS (S.1,(S.2.1,(S.2.2.1,(S.2.2.2.1,(S.2.2.2.2.1,(S.2.2.2.2.2,()))))))).run=some (sS (Ip S)):=dw (Ip S) (hF S q)
   rw[z6 hI]
   cases sS (Ip S)with
   | false=>rw[za (by rfl),z7]; rfl
   | true =>
    rw[z8 (by rfl)]
    simp only[zq,T.zi,zo,z7]
    rfl
def sgC(p s:Bool):UInt8:=bif p then(bif s then 47 else 42)else(bif s then 45 else 43)
def sgK(p s:Bool):Int:=bif p then(bif s then 6 else 5)else(bif s then 4 else 3)
def NJ(p:Bool):List Bool->zf
 | []=>[]
 | s::r=>sgC p s::98::NJ p r
def sgE(p:Bool):Expr->List Bool->Expr
 | e,[]=>e
 | e,s::r=>sgE p (sa (sgK p s) [e,iN [98]]) r
theorem Wo(p:Bool)(l:List Bool):S9 (NJ p l)=true:=by
 cases l with
 | nil=>rfl
 | cons s r=>cases p<;>cases s<;>rfl
theorem Gr(c:UInt8)(hc:XW c=true)(d:Nat)(l:Bool)(q:zf)(hq:S9 q=true):SF d l (c::q) (.ok (iN [c]) q l):=by
 have h:=z61 (d:=d) (l:=l) (z5p (z5d hc):nw (c::q)=c::q) hc
 have hn:q7 [c]=true:=by
  unfold q7
  show(true&&(XW c&&(ux c&&true)))=true
  rw[hc,ER hc]; rfl
 have:=MD hn l hq
 have e:EP (c::q) l=.ok (.mk 2 qc [c] []) q l:=this
 rw[e]at h
 exact h
theorem FD:∀ (l:List Bool) (e:Expr),RP 0 e (NJ true l) false (.ok (sgE true e l) [] false)
 | [],e=>Yt rfl
 | s::r,e=>by
  have hsk:kc [42,47] (NJ true (s::r))=some (sgC true s,98::NJ true r):=by cases s<;>rfl
  refine TQ hsk (Gr 98 (by decide) 0 false _ (Wo true r)) ?_
  have:(if sgC true s=42 then(5:Int)else 6)=sgK true s:=by cases s<;>rfl
  rw[this]
  exact FD r _
theorem RE:∀ (l:List Bool) (e:Expr),RS 0 e (NJ false l) false (.ok (sgE false e l) [] false)
 | [],e=>Fk rfl
 | s::r,e=>by
  have hsk:kc [43,45] (NJ false (s::r))=some (sgC false s,98::NJ false r):=by cases s<;>rfl
  have yA:kc [42,47] (NJ false r)=none:=by
   cases r with
   | nil=>rfl
   | cons t r=>cases t<;>rfl
  refine z2y hsk (PW (Gr 98 (by decide) 0 false _ (Wo false r)) (Yt yA)) ?_
  have:(if sgC false s=43 then(3:Int)else 4)=sgK false s:=by cases s<;>rfl
  rw[this]
  exact z3i (RE r _)
theorem z3t(c:UInt8)(hc:XW c=true)(d:Nat)(hd:d<32):vN d (iN [c])=true:=by
 refine PB hd ?_ rfl
 show(true&&(true&&(true&&(XW c&&(ux c&&true)))))=true
 rw[hc,ER hc]; rfl
theorem SU(p:Bool):∀ (l:List Bool) (e:Expr) (d:Nat),d+l.length<32->vN (d+l.length) e=true->vN d (sgE p e l)=true
 | [],_,_,_,h=>h
 | s::r,e,d,hd,h=>by
  simp only[List.length_cons]at hd h
  refine SU p r _ d (by omega) (PB (by omega) ?_ ?_)
  ·cases p<;>cases s<;>rfl
  ·show(vN (d+r.length+1) e&&(vN (d+r.length+1) (iN [98])&&true))=true
   rw[show d+r.length+1=d+(r.length+1) by omega,h,z3t 98 (by decide) _ (by omega)]; rfl
theorem Rn(p:Bool):∀ (l:List Bool) (e:Expr),w6 (sgE p e l)=w6 e+2*l.length
 | [],_=>rfl
 | s::r,e=>by
  show w6 (sgE p _ r)=_
  rw[Rn p r,nd2,show w6 (iN [98])=1 from rfl,List.length_cons]; omega
theorem D2(p:Bool)(l:List Bool)(hl:l.length<=28):qJ (97::NJ p l)=(sgE p (iN [97]) l,((0:Int),(0:Int))):=by
 have hs:SS 0 false (97::NJ p l) (.ok (sgE p (iN [97]) l) [] false):=by
  cases p with
  | true=>exact z30 (PW (Gr 97 (by decide) 0 false _ (Wo true l)) (FD l _)) (Fk rfl)
  | false =>
   have yA:kc [42,47] (NJ false l)=none:=by
    cases l with
    | nil=>rfl
    | cons t r=>cases t<;>rfl
   exact z30 (PW (Gr 97 (by decide) 0 false _ (Wo false l)) (Yt yA)) (z3i (RE l _))
 have hI:Ec (sgE p (iN [97]) l)=true:=by
  unfold Ec
  rw[Rn,SU p l (iN [97]) 0 (by omega) (z3t 97 (by decide) _ (by omega)),decide_eq_true (by rw[show w6 (iN [97])=1 from rfl]; omega)]
  rfl
 unfold qJ
 rw[z6g hs]
 unfold CY rU
 dsimp only
 rw[if_neg (by decide),hI,if_neg (by simp)]
theorem zfR{α:Type}(eqb:α->α->Bool)(heq:∀ x y,eqb x y=true↔x=y)(d:α)(R:Int->T (Int⊕(Unit⊕Bool)))(a b:List α)(hl:a.length=b.length)
  (step:∀ k (h:k<a.length) (h':k<b.length),(R (k:Int)).run=some (if eqb a[k] b[k]=true then .inl ((k+1:Nat):Int)else .inr (.inr false)))
  (done:(R (a.length:Int)).run=some (.inr (.inl ()))):∃ z,(T.loop R 0).run=some z/\((a=b/\z=.inl ())\/(a≠b/\z=.inr false)):=by
 have key:∀ (m k:Nat),k+m=a.length->∃ z,(T.loop R (k:Int)).run=some z/\((a.drop k=b.drop k/\z=.inl ())\/(a.drop k≠b.drop k/\z=.inr false)):=by
  intro m
  induction m with
  | zero =>
   intro k hk
   have:k=a.length:=by omega
   subst this
   refine⟨_,qw done,.inl ⟨?_,rfl⟩⟩
   rw[List.drop_length,hl,List.drop_length]
  | succ m ih =>
   intro k hk
   have h1:k<a.length:=by omega
   have h2:k<b.length:=by omega
   have st:=step k h1 h2
   rw[List.drop_eq_getElem_cons h1,List.drop_eq_getElem_cons h2]
   by_cases q:eqb a[k] b[k]=true
   ·rw[if_pos q]at st
    obtain⟨z,hz,hc⟩:=ih (k+1) (by omega)
    refine⟨z,by rw[wU st]; exact hz,?_⟩
    have:=(heq _ _).1 q
    rcases hc with⟨h3,h4⟩ | ⟨h3,h4⟩
    ·exact .inl ⟨by rw[this,h3],h4⟩
    ·exact .inr ⟨λh=>h3 (List.cons.inj h).2,h4⟩
   ·rw[if_neg q]at st
    exact⟨_,qw st,.inr ⟨λh=>q ((heq _ _).2 (List.cons.inj h).1),rfl⟩⟩
 have:=key a.length 0 (by omega)
 simpa using this
theorem BJ(a b:List Int)(la:a.length<=1000000000):(xY a b).run=some (a==b):=by
 unfold xY
 by_cases hl:a.length=b.length
 ·obtain⟨z,hz,hc⟩:=zfR (λx y:Int=>x==y) (λx y=>by simp) (zj (.int .u32)) (xB a b (a.length:Int)) a b hl (λk h h'=>by
   unfold xB
   dsimp only
   rw[za (ua h),zb (zW h),zb (zW h'),uN h,uN h']
   by_cases q:a[k]=b[k]
   ·rw[z8 (by simp[q]),z7,fB k _ h (by omega),if_pos (by simp[q])]
   ·rw[za (by simp[q]),z7,if_neg (by simp[q])]) (by
   unfold xB
   dsimp only
   rw[z8 (jy _),z7])
  have hz:(kF a b (a.length:Int) 0).run=some z:=hz
  rw[z8 (by rw[hl]; simp),z6 hz]
  rcases hc with⟨h,rfl⟩ | ⟨h,rfl⟩
  ·rw[h]; simp
  ·rw[show(a==b)=false by simpa using h]; rfl
 ·rw[za (by simp; omega),z7]
  have:(a==b)=false:=by rw[beq_eq_false_iff_ne]; intro e; exact hl (by rw[e])
  rw[this]
theorem Zq(a b:Rat)(ha:jt a)(hb:jt b):(iZ a b).run=some (gI a b):=by
 have na:=di (k:=100) (by omega) ha
 unfold iZ gI
 rw[z6 (nD a (ct ha (by omega))),z6 (nD b (ct hb (by omega)))]
 cases((norm a).1==(norm b).1)with
 | false=>rfl
 | true =>
  rw[zh,z6 (BJ _ _ (by have:=na.2.2.1; omega)),Bool.true_and]
  cases((norm a).2.1==(norm b).2.1)with
  | false=>rfl
  | true=>rw[zh,z6 (BJ _ _ (by have:=na.2.2.2; omega)),z7,Bool.true_and]
theorem rX(a b:Expr)(ha:allOk a)(hb:allOk b)(la:w6 a<=1000000):(iK a b).run=some (sameE a b):=by
 unfold iK
 refine cY (λx:Expr×Expr=>allOk x.1/\allOk x.2/\w6 x.1<=1000000) (λx=>w6 x.1) (λx=>sameE x.1 x.2) (λx hx g hg => ?_) (x:=(a,b)) ⟨ha,hb,la⟩
 obtain⟨a,b⟩:=x
 obtain⟨ha,hb,la⟩:=hx
 dsimp only at ha hb la ⊢
 cases a with | mk k n s l =>
 cases b with | mk k' n' s' l' =>
 have hk:=Uu (.mk k n s l)
 have hk:l.length<=w6 (.mk k n s l):=hk
 have hE:(qD (λy0 y1=>g (y0,y1)) l l' (λz0 z1=>g (z0,z1))).run=some (sameEs l l'):=by
  unfold qD
  by_cases hl:l.length=l'.length
  ·have key:(vq (λy0 y1=>g (y0,y1)) l' (λz0 z1=>g (z0,z1)) l (l.length:Int) 0).run=some (if sameEs l l'=true then .inl ()else .inr false):=by
    refine HE (qs (λy0 y1=>g (y0,y1)) l' (λz0 z1=>g (z0,z1)) l (l.length:Int)) l l' hl (λj h h' => ?_) ?_
    ·have hr:=hg (l[j],l'[j]) ⟨yy ha.2 _ (List.getElem_mem h),yy hb.2 _ (List.getElem_mem h'),by have:=cn (List.getElem_mem h); have e:w6 (.mk k n s l)=1+wX l:=rfl; show w6 l[j]<=1000000; omega⟩ (by have:=cn (List.getElem_mem h); have e:w6 (.mk k n s l)=1+wX l:=rfl; show w6 l[j]<w6 (.mk k n s l); omega)
     unfold qs
     dsimp only
     rw[za (ua h),zb (zW h),zb (zW h'),uN h,uN h',z6 hr]
     cases sameE l[j] l'[j]with
     | false=>rfl
     | true=>rw[z8 (by rfl),z7,fB j _ h (by omega),if_pos rfl]
    ·unfold qs
     dsimp only
     rw[z8 (jy _),z7]
   rw[z8 (by rw[hl]; simp),z6 key]
   cases sameEs l l'<;>rfl
  ·rw[za (by simp; omega),z7,ta l l' hl]
 unfold fk
 show(T.ite (k==k') (.ite (zl s s') (T.bind (iZ n n') λr=>.ite r (T.bind (qD (λy0 y1=>g (y0,y1)) l l' (λz0 z1=>g (z0,z1))) λr1=>.ret r1) (.ret false)) (.ret false)) (.ret false)).run=some ((k==k')&&(zl s s'&&(gI n n'&&sameEs l l')))
 cases(k==k')with
 | false=>rfl
 | true =>
  rw[zh]
  cases zl s s' with
  | false=>rfl
  | true =>
   rw[zh,z6 (Zq n n' ha.1 hb.1)]
   cases gI n n' with
   | false=>rfl
   | true=>rw[zh,z6 hE,z7]; rfl
def uy{α:Type}(p:α->α->Bool):List α->List α->Bool
 | [],[]=>true
 | x::l,y::m=>p x y&&uy p l m
 | _,_=>false
theorem cA{α:Type}(p:α->α->Bool):∀ {l m:List α},l.length≠m.length->uy p l m=false
 | [],[],h=>absurd rfl h
 | [],_::_,_=>rfl
 | _::_,[],_=>rfl
 | x::l,y::m,h=>by
  show(p x y&&uy p l m)=false
  rw[cA p (l:=l) (m:=m) (λe=>h (by simp[e])),Bool.and_false]
theorem bw{α:Type}(p:α->α->Bool):∀ {l:List α},(∀ x∈l,p x x=true)->uy p l l=true
 | [],_=>rfl
 | x::l,h=>by
  show(p x x&&uy p l l)=true
  rw[h x List.mem_cons_self,bw p λy hy=>h y (List.mem_cons_of_mem _ hy)]; rfl
theorem bF{α:Type}(l m:List α)(d:α)(p:α->α->Bool)(hlen:l.length=m.length){r:Int->T (Int⊕(Unit⊕Bool))}
  (step:∀ (k:Nat) (x y:α),k<l.length->nth l (k:Int) d=x->nth m (k:Int) d=y->x∈l->y∈m->(r (k:Int)).run=some (if p x y=true then .inl ((k+1:Nat):Int)else .inr (.inr false)))
  (done:(r (l.length:Int)).run=some (.inr (.inl ()))):(T.loop r 0).run=some (if uy p l m=true then .inl ()else .inr false):=by
 have key:∀ (n k:Nat),k+n=l.length->(T.loop r (k:Int)).run=some (if uy p (l.drop k) (m.drop k)=true then .inl ()else .inr false):=by
  intro n
  induction n with
  | zero =>
   intro k hk
   have:k=l.length:=by omega
   subst this
   rw[List.drop_length,List.drop_of_length_le (by omega)]
   exact qw done
  | succ n ih =>
   intro k hk
   have h1:k<l.length:=by omega
   have h2:k<m.length:=by omega
   rw[List.drop_eq_getElem_cons h1,List.drop_eq_getElem_cons h2]
   have hs:=step k l[k] m[k] h1 (uN h1 d) (uN h2 d) (List.getElem_mem h1) (List.getElem_mem h2)
   show _=some (if(p l[k] m[k]&&uy p (l.drop (k+1)) (m.drop (k+1)))=true then _ else _)
   cases hp:p l[k] m[k]with
   | true =>
    rw[hp,if_pos rfl]at hs
    rw[Bool.true_and]
    exact(wU hs).trans (ih (k+1) (by omega))
   | false =>
    rw[hp,if_neg (by decide)]at hs
    rw[Bool.false_and,if_neg (by decide)]
    exact qw hs
 have:=key l.length 0 (by omega)
 rwa [List.drop_zero,List.drop_zero]at this
def Q5(x y:Switch):Bool:=zl x.1 y.1&&((x.2.1==y.2.1)&&true)
def Z5(x y:Param):Bool:=zl x.1 y.1&&gI x.2.1 y.2.1
def Qa(x y:xl):Bool:=zl x.1 y.1&&(zl x.2.1 y.2.1&&true)
def ZL(x y:Field):Bool:=zl x.1 y.1&&((x.2.1==y.2.1)&&((x.2.2.1==y.2.2.1)&&((x.2.2.2.1==y.2.2.2.1)&&true)))
def ns(x y:qG):Bool:=zl x.1 y.1&&((x.2.1==y.2.1)&&(zl x.2.2.1 y.2.2.1&&(sameE x.2.2.2.1 y.2.2.2.1&&sameE x.2.2.2.2.1 y.2.2.2.2.1)))
def rS(x y:Check):Bool:=zl x.1 y.1&&((x.2.1==y.2.1)&&((x.2.2.1==y.2.2.1)&&(sameE x.2.2.2.1 y.2.2.2.1&&sameE x.2.2.2.2.1 y.2.2.2.2.1)))
def Y4(f g:Form):Bool:=uy Q5 f.1 g.1&&(uy Z5 f.2.1 g.2.1&&(uy Qa f.2.2.1 g.2.2.1&&(uy ZL f.2.2.2.1 g.2.2.2.1&&(uy ns f.2.2.2.2.1 g.2.2.2.2.1&&uy rS f.2.2.2.2.2.1 g.2.2.2.2.2.1))))
theorem JE(a b:List qG)(ha:a.length<=1000)(h1:∀ x∈a,vG x.2.2.2.1/\vG x.2.2.2.2.1)(h2:∀ x∈b,vG x.2.2.2.1/\vG x.2.2.2.2.1):(gH a b).run=some (uy ns a b):=by
 unfold gH
 by_cases c:a.length=b.length
 ·have key:(fP a b 0).run=some (if uy ns a b=true then .inl ()else .inr false):=by
   refine bF (r:=uc a b) a b (zj zX) ns c (λk x y hk hx hy mx my => ?_) ?_
   ·obtain⟨x1,x2⟩:=h1 x mx
    obtain⟨y1,y2⟩:=h2 y my
    have i1:=zW hk
    have i2:qz (k:Int) b.length:=zW (by omega)
    unfold uc
    rw[za (ua hk),hx,hy]
    refine(z6 (a := !ns x y) ?_ _).trans ?_
    ·rw[zb i1,zb i2]
     unfold ns
     cases zl x.1 y.1 with
     | false=>rw[za (by rfl),z7]; rfl
     | true =>
      rw[z8 (by rfl),zb i1,zb i2,bne]
      cases(x.2.1==y.2.1)with
      | false=>rw[za (by rfl),z7]; rfl
      | true =>
       rw[z8 (by rfl),zb i1,zb i2]
       cases zl x.2.2.1 y.2.2.1 with
       | false=>rw[za (by rfl),z7]; rfl
       | true =>
        rw[z8 (by rfl),zb i1,zb i2,z6 (bV _ _ x1.2.2 y1.2.2 (by have:=x1.2.1; omega))]
        cases sameE x.2.2.2.1 y.2.2.2.1 with
        | false=>rw[za (by rfl),z7]; rfl
        | true =>
         rw[z8 (by rfl),zb i1,zb i2,z6 (bV _ _ x2.2.2 y2.2.2 (by have:=x2.2.1; omega)),z7]; rfl
    ·cases ns x y with
     | false=>rw[za (by rfl),z7]; rfl
     | true=>rw[z8 (by rfl),z7,fB k _ hk (by omega)]; rfl
   ·unfold uc
    rw[z8 (jy _),z7]
  rw[z8 (by rw[c,bne_self_eq_false]),z6 key]
  cases uy ns a b<;>rfl
 ·rw[za (by rw[bne_iff_ne]; omega),z7,cA ns c]
theorem Un(a b:List Check)(ha:a.length<=1000)(h1:∀ x∈a,vG x.2.2.2.1/\vG x.2.2.2.2.1)(h2:∀ x∈b,vG x.2.2.2.1/\vG x.2.2.2.2.1):(yl a b).run=some (uy rS a b):=by
 unfold yl
 by_cases c:a.length=b.length
 ·have key:(dN a b 0).run=some (if uy rS a b=true then .inl ()else .inr false):=by
   refine bF (r:=vK a b) a b (zj zD) rS c (λk x y hk hx hy mx my => ?_) ?_
   ·obtain⟨x1,x2⟩:=h1 x mx
    obtain⟨y1,y2⟩:=h2 y my
    have i1:=zW hk
    have i2:qz (k:Int) b.length:=zW (by omega)
    unfold vK
    rw[za (ua hk),hx,hy]
    refine(z6 (a := !rS x y) ?_ _).trans ?_
    ·rw[zb i1,zb i2]
     unfold rS
     cases zl x.1 y.1 with
     | false=>rw[za (by rfl),z7]; rfl
     | true =>
      rw[z8 (by rfl),zb i1,zb i2,bne]
      cases(x.2.1==y.2.1)with
      | false=>rw[za (by rfl),z7]; rfl
      | true =>
       rw[z8 (by rfl),zb i1,zb i2,bne]
       cases(x.2.2.1==y.2.2.1)with
       | false=>rw[za (by rfl),z7]; rfl
       | true =>
        rw[z8 (by rfl),zb i1,zb i2,z6 (bV _ _ x1.2.2 y1.2.2 (by have:=x1.2.1; omega))]
        cases sameE x.2.2.2.1 y.2.2.2.1 with
        | false=>rw[za (by rfl),z7]; rfl
        | true =>
         rw[z8 (by rfl),zb i1,zb i2,z6 (bV _ _ x2.2.2 y2.2.2 (by have:=x2.2.1; omega)),z7]; rfl
    ·cases rS x y with
     | false=>rw[za (by rfl),z7]; rfl
     | true=>rw[z8 (by rfl),z7,fB k _ hk (by omega)]; rfl
   ·unfold vK
    rw[z8 (jy _),z7]
  rw[z8 (by rw[c,bne_self_eq_false]),z6 key]
  cases uy rS a b<;>rfl
 ·rw[za (by rw[bne_iff_ne]; omega),z7,cA rS c]
theorem Jl(f g:Form)(hf:FS f)(hg:FS g):(pM f g).run=some (Y4 f g):=by
 have hn:=hf.n
 unfold pM Y4
 by_cases c1:f.1.length=g.1.length
 case neg=>rw[za (by rw[bne_iff_ne.2 (show((f.1.length:Nat):Int)≠(g.1.length:Int) by omega)]; rfl),z7,cA Q5 c1]; rfl
 by_cases c2:f.2.1.length=g.2.1.length
 case neg=>rw[za (by rw[bne_iff_ne.2 (show((f.2.1.length:Nat):Int)≠(g.2.1.length:Int) by omega),Bool.true_or,Bool.or_true]),z7,cA Z5 c2,Bool.false_and,Bool.and_false]
 by_cases c3:f.2.2.1.length=g.2.2.1.length
 case neg=>rw[za (by rw[bne_iff_ne.2 (show((f.2.2.1.length:Nat):Int)≠(g.2.2.1.length:Int) by omega),Bool.true_or,Bool.or_true,Bool.or_true]),z7,cA Qa c3,Bool.false_and,Bool.and_false,Bool.and_false]
 by_cases c4:f.2.2.2.1.length=g.2.2.2.1.length
 case neg=>rw[za (by rw[bne_iff_ne.2 (show((f.2.2.2.1.length:Nat):Int)≠(g.2.2.2.1.length:Int) by omega),Bool.or_true,Bool.or_true,Bool.or_true]),z7,cA ZL c4,Bool.false_and,Bool.and_false,Bool.and_false,Bool.and_false]
 have l0:(tX f g 0).run=some (if uy Q5 f.1 g.1=true then .inl ()else .inr false):=by
  refine bF (r:=gK f g) f.1 g.1 (zj zt) Q5 c1 (λk x y hk hx hy mx my => ?_) ?_
  ·unfold gK
   rw[za (ua hk),zb (zW hk),zb (zW (by omega)),hx,hy]
   show(T.ite (!Q5 x y) _ _).run=_
   cases Q5 x y with
   | false=>rw[za (by rfl),z7]; rfl
   | true=>rw[z8 (by rfl),z7,fB k _ hk (by omega)]; rfl
  ·unfold gK
   rw[z8 (jy _),z7]
 have l1:(Zb f g 0).run=some (if uy Z5 f.2.1 g.2.1=true then .inl ()else .inr false):=by
  refine bF (r:=gA f g) f.2.1 g.2.1 (zj zw) Z5 c2 (λk x y hk hx hy mx my => ?_) ?_
  ·unfold gA
   have i2:qz (k:Int) g.2.1.length:=zW (by omega)
   rw[za (ua hk),hx,hy]
   refine(z6 (a := !Z5 x y) ?_ _).trans ?_
   ·rw[zb (zW hk),zb i2]
    unfold Z5
    cases zl x.1 y.1 with
    | false=>rw[za (by rfl),z7]; rfl
    | true=>rw[z8 (by rfl),zb (zW hk),zb i2,z6 (sE _ _ (hf.p x mx).2 (hg.p y my).2),z7]; rfl
   ·cases Z5 x y with
    | false=>rw[za (by rfl),z7]; rfl
    | true=>rw[z8 (by rfl),z7,fB k _ hk (by omega)]; rfl
  ·unfold gA
   rw[z8 (jy _),z7]
 have l2:(Zy f g 0).run=some (if uy Qa f.2.2.1 g.2.2.1=true then .inl ()else .inr false):=by
  refine bF (r:=b8 f g) f.2.2.1 g.2.2.1 (zj zO) Qa c3 (λk x y hk hx hy mx my => ?_) ?_
  ·unfold b8
   rw[za (ua hk),zb (zW hk),zb (zW (by omega)),hx,hy]
   show(T.ite (!Qa x y) _ _).run=_
   cases Qa x y with
   | false=>rw[za (by rfl),z7]; rfl
   | true=>rw[z8 (by rfl),z7,fB k _ hk (by omega)]; rfl
  ·unfold b8
   rw[z8 (jy _),z7]
 have l3:(Z7 f g 0).run=some (if uy ZL f.2.2.2.1 g.2.2.2.1=true then .inl ()else .inr false):=by
  refine bF (r:=gm f g) f.2.2.2.1 g.2.2.2.1 (zj zy) ZL c4 (λk x y hk hx hy mx my => ?_) ?_
  ·unfold gm
   rw[za (ua hk),zb (zW hk),zb (zW (by omega)),hx,hy]
   show(T.ite (!ZL x y) _ _).run=_
   cases ZL x y with
   | false=>rw[za (by rfl),z7]; rfl
   | true=>rw[z8 (by rfl),z7,fB k _ hk (by omega)]; rfl
  ·unfold gm
   rw[z8 (jy _),z7]
 rw[z8 (by rw[c1,c2,c3,c4]; simp),z6 l0]
 cases uy Q5 f.1 g.1 with
 | false=>rfl
 | true =>
  rw[if_pos rfl,Sum.elim_inl,z6 l1,Bool.true_and]
  cases uy Z5 f.2.1 g.2.1 with
  | false=>rfl
  | true =>
   rw[if_pos rfl,Sum.elim_inl,z6 l2,Bool.true_and]
   cases uy Qa f.2.2.1 g.2.2.1 with
   | false=>rfl
   | true =>
    rw[if_pos rfl,Sum.elim_inl,z6 l3,Bool.true_and]
    cases uy ZL f.2.2.2.1 g.2.2.2.1 with
    | false=>rfl
    | true =>
     rw[if_pos rfl,Sum.elim_inl,z6 (JE _ _ (by omega) (λx hx=>(hf.r x hx).2.2) (λx hx=>(hg.r x hx).2.2)),Bool.true_and]
     cases uy ns f.2.2.2.2.1 g.2.2.2.2.1 with
     | false=>rfl
     | true=>rw[zh,z6 (Un _ _ (by omega) (λx hx=>(hf.c x hx).2) (λx hx=>(hg.c x hx).2)),z7]; rfl
theorem DW(a:Rat):gI a a=true:=by
 have:=bC (.mk 0 a [] [])
 have h:((0:Int)==0&&(zl ([]:zf) []&&(gI a a&&sameEs [] [])))=true:=this
 simp only[Bool.and_eq_true]at h
 exact h.2.2.1
theorem DU(f:Form):Y4 f f=true:=by
 unfold Y4
 rw[bw Q5,bw Z5,bw Qa,bw ZL,bw ns,bw rS]
 ·rfl
 all_goals intro x _
 ·unfold rS; rw[uo,beq_self_eq_true,beq_self_eq_true,bC,bC]; rfl
 ·unfold ns; rw[uo,beq_self_eq_true,uo,bC,bC]; rfl
 ·unfold ZL; rw[uo,beq_self_eq_true,beq_self_eq_true,beq_self_eq_true]; rfl
 ·unfold Qa; rw[uo,uo]; rfl
 ·unfold Z5; rw[uo,DW]; rfl
 ·unfold Q5; rw[uo,beq_self_eq_true]; rfl
def fW:Expr:=.mk 1 (rT [50]) [] []
theorem BD(d:Nat)(hd:d<32):vN d fW=true:=by
 have h:jF (.mk 1 (rT [50]) [] [])=true:=by
  unfold jF
  show((((0:Nat):Int)==ot 1)&&(if(1:Int)=1 then kP (rT [50])&&zl [] []else _))=true
  rw[if_pos rfl,z1f]
  rfl
 show(decide (d<32)&&(jF (.mk 1 (rT [50]) [] [])&&jz (d+1) []))=true
 rw[h,decide_eq_true hd]; rfl
theorem NU:Ec fW=true:=by
 unfold Ec
 rw[BD 0 (by decide)]
 rfl
theorem z1k:prE fW=[50]:=by
 show(xc (norm (rT [50])).1 (nv (norm (rT [50])).2.1) (nv (norm (rT [50])).2.2.1) 0 61).1=[50]
 rw[OO,RC]
 show(xc false 2 1 0 61).1=[50]
 unfold xc
 rw[if_pos (by decide)]
 show Lg false++Lp (pr 2) 0=[50]
 unfold Lp pr
 rw[if_pos rfl,if_neg (by decide),r7 (by decide),show 2 / 10=0 from rfl,nS]
 rfl
theorem TV:qJ [97]=(iN [97],((0:Int),(0:Int))):=D2 true [] (by decide)
theorem z0o:qJ [50]=(fW,((0:Int),(0:Int))):=by
 have h:mP qc [50]=.ok fW [] false:=by kernel_rfl
 unfold qJ
 rw[h]
 unfold CY rU
 dsimp only
 rw[if_neg (by decide),NU,if_neg (by simp)]
theorem R3:xe [97,61,50]=(iN [97],(fW,((0:Int),(0:Int)))):=by
 have h:gB [97,61,50]=some ([97],0,[50]):=rfl
 unfold xe
 rw[h]
 dsimp only
 rw[TV,z0o]
 rfl
def knS:zf:=[112,97,103,101,32,112,10,102,105,101,108,100,32,32,97,32,109,117,115,116,10,114,117,108,101,32,119,101,97,107,32,114,58,97,61,50,10]
def knF:Zp:=([],[],[([112],([],()))],[([97],(0,(true,(0,()))))],[([114],(3,([],(iN [97],(fW,())))))],[])
theorem BU:bA (cQ 10 knS) vP 0=.inr knF:=by
 have e:cQ 10 knS=[[112,97,103,101,32,112],[102,105,101,108,100,32,32,97,32,109,117,115,116],[114,117,108,101,32,119,101,97,107,32,114,58,97,61,50],[]]:=by decide +kernel
 have l1:kJ 0 [112,97,103,101,32,112]=(0,[],[],[([112],([],()))],[],[],[]):=rfl
 have l2:kJ 1 [102,105,101,108,100,32,32,97,32,109,117,115,116]=(0,[],[],[],[([97],(0,(true,(0,()))))],[],[]):=rfl
 have l3:kJ 1 [114,117,108,101,32,119,101,97,107,32,114,58,97,61,50]=(0,[],[],[],[],[([114],(3,([],(iN [97],(fW,())))))],[]):=by
  have:kJ 1 [114,117,108,101,32,119,101,97,107,32,114,58,97,61,50]=Bs [[114,117,108,101],[119,101,97,107],[114]] [97,61,50]:=rfl
  rw[this]
  unfold Bs
  rw[R3]
  rfl
 have l4:kJ 1 []=(0,vP):=rfl
 rw[e]
 unfold bA
 rw[show kJ vP.2.2.1.length [112,97,103,101,32,112]=_ from l1,if_pos rfl]
 unfold bA
 rw[show kJ (Jd vP (([],[],[([112],([],()))],[],[],[]):Zp)).2.2.1.length [102,105,101,108,100,32,32,97,32,109,117,115,116]=_ from l2,if_pos rfl]
 unfold bA
 rw[show kJ (Jd (Jd vP (([],[],[([112],([],()))],[],[],[]):Zp)) (([],[],[],[([97],(0,(true,(0,()))))],[],[]):Zp)).2.2.1.length [114,117,108,101,32,119,101,97,107,32,114,58,97,61,50]=_ from l3,if_pos rfl]
 rfl
theorem Hr{s:zf}(h:s.length<=600){S:Zp}(hl:bA (cQ 10 s) vP 0=.inr S):FS (Ip S):=by
 obtain⟨g,ht⟩:=U2 _ _ _ _ hl z3q
 have:=YW 10 s
 have h0:I0 vP=0:=rfl
 exact⟨by rw[h0]at ht; unfold I0 at ht; show S.1.length+S.2.1.length+S.2.2.1.length+S.2.2.2.1.length+S.2.2.2.2.1.length+S.2.2.2.2.2.length<=601; omega,g.s,g.p,g.g,g.d,g.r,g.c⟩
def knT:zf:=[112,97,103,101,32,112,10,102,105,101,108,100,32,97,32,109,117,115,116,10,114,117,108,101,32,119,101,97,107,32,114,32,58,32,97,32,61,32,50,10]
theorem FZ:frS (Ip knF)=knT:=by
 have h1:Od (iN [97]) [61] fW=[32,58,32,97,32,61,32,50,10]:=by
  unfold Od
  rw[z1k]
  rfl
 have h2:CS ([114],(3,([],(iN [97],(fW,())))))=[114,117,108,101,32,119,101,97,107,32,114,32,58,32,97,32,61,32,50,10]:=by
  unfold CS
  dsimp only
  rw[h1]
  rfl
 show([]++[]++(List.range 1).flatMap (MV (Ip knF))++(CS ([114],(3,([],(iN [97],(fW,())))))++[]))=_
 rw[h2]
 rfl
theorem S4:sS (Ip knF)=true:=by
 have h6:a6 (Ip knF)=true:=by
  show(!(tf ([114],(3,([],(iN [97],(fW,())))))||false))=true
  have:tf ([114],(3,([],(iN [97],(fW,())))))=false:=by
   show(!(q7 [114])||(!(lR [])||(false||(false||(!(vN 0 (iN [97])) || !(vN 0 fW))))))=false
   rw[BD 0 (by decide)]
   rfl
  rw[this]; rfl
 unfold sS
 rw[h6,FZ]
 rfl
theorem DR:mb.run=some true:=by
 have hp:(cd knS).run=some (Ip knF,((0:Int),(0:Int))):=by
  rw[We knS (λS h=>Hr (by decide) h)]
  unfold CF
  rw[if_neg (by decide),BU]
  dsimp only
  rw[S4]
  rfl
 have hF:FS (Ip knF):=Hr (s:=knS) (by decide) BU
 have hp2:(jQ (Ip knF)).run=some knT:=by
  unfold jQ
  rw[z6 (dw _ hF),S4,z8 (by rfl)]
  have h:=S4
  unfold sS at h
  simp only[Bool.and_eq_true]at h
  rw[z6 (cJ _ (Fy hF h.2.2.2.1 h.2.2.2.2.1 h.2.2.2.2.2.1)),z7,FZ]
 unfold mb
 rw[show([112,97,103,101,32,112,10,102,105,101,108,100,32,32,97,32,109,117,115,116,10,114,117,108,101,32,119,101,97,107,32,114,58,97,61,50,10]:zf)=knS from rfl,z6 hp]
 dsimp only
 rw[za (by rfl),za (by rfl),z6 hp2,z7]
 rfl
def GU{α:Type}(s:α->Nat)(l:List α):Nat:=(l.map s).sum
theorem rq{α:Type}{s:α->Nat}{l:List α}{x:α}(h:x∈l):s x<=GU s l:=by
 unfold GU
 induction l with
 | nil=>cases h
 | cons y r ih =>
  rw[List.map_cons,List.sum_cons]
  rcases List.mem_cons.1 h with rfl | h
  ·omega
  ·have:=ih h; omega
theorem lj{α:Type}(l:List α)(d:α)(s:α->Nat){r:Int×Int->T ((Int×Int)⊕Int)}(hl:l.length<=1048576)
  (h1:∀ (n:Int) (k:Nat) (x:α),k<l.length->x∈l->nth l (k:Int) d=x->0<=n->n<=600->∃ n',(r (n,(k:Int))).run=some (.inl (n',zF ((k:Int)+1))) /\ -10000000000<=n'/\n'<=n/\(0<=n'->n'+s x<=n))
  (h2:∀ (n:Int) (k:Nat),¬ (k<l.length/\0<=n)->(r (n,(k:Int))).run=some (.inr n)) (n:Int) (hn : -10000000000<=n) (Uf:n<=600) :
  ∃ n',(T.loop r (n,0)).run=some n' /\ -10000000000<=n'/\n'<=600/\(0<=n'->n'+GU s l<=n):=by
 refine T.qL (λz:Int×Int=>∃ k:Nat,z.2=(k:Int)/\k<=l.length /\ -10000000000<=z.1/\z.1<=600/\(0<=z.1->z.1+GU s (l.take k)<=n)) (λz=>l.length-z.2.toNat) _ (λz hz => ?_) ⟨0,rfl,by omega,hn,Uf,λ_=>by simp[GU]⟩
 obtain⟨m,i⟩:=z
 obtain⟨k,rfl,hk,hm,Hp,hP⟩:=hz
 dsimp only at hm Hp hP ⊢
 by_cases c:k<l.length/\0<=m
 ·left
  obtain⟨n',g1,g2,g3,g4⟩:=h1 m k l[k] c.1 (List.getElem_mem c.1) (uN c.1 d) c.2 Hp
  rw[fB k _ c.1 (by omega)]at g1
  refine⟨_,g1,⟨k+1,rfl,c.1,g2,by dsimp only; omega,λh0 => ?_⟩,by dsimp only; omega⟩
  have:=hP c.2
  have:=g4 h0
  rw[List.take_succ_eq_append_getElem c.1]
  unfold GU at *
  rw[List.map_append,List.sum_append]
  simp only[List.map_cons,List.map_nil,List.sum_cons,List.sum_nil]
  omega
 ·right
  refine⟨m,h2 m k c,hm,Hp,λh0 => ?_⟩
  have:k=l.length:=by
   by_cases q:k<l.length
   ·exact absurd ⟨q,h0⟩ c
   ·omega
  have:=hP h0
  subst k
  rwa [List.take_length]at this
theorem fE(e:Expr)(left:Int)(h0 : -100000000000<=left)(h1:left<=600)(hb:bkE e<=1000000000):(jM e left).run=some (wtE e left):=by
 unfold jM
 refine cY (λx:Expr×Int => -100000000000<=x.2/\x.2<=600/\bkE x.1<=1000000000) (λx=>bkE x.1) (λx=>wtE x.1 x.2) (λx hx g hg => ?_) (x:=(e,left)) ⟨h0,h1,hb⟩
 obtain⟨e,left⟩:=x
 obtain⟨h0,h1,hx⟩:=hx
 simp only at hx hg h0 h1
 have hk:=QW e
 have hkl:=Bv e.kids
 have loop:∀ acc:Int,-1000000000000<=acc->acc<=600->(oL (λy0 y1=>g (y0,y1)) e (acc,0)).run=some (wtEs e.kids acc):=by
  intro acc a1 a2
  refine Kf e.kids (zj .expr) (λb i=>(b,i)) (λb r=>b<=600/\∀ x∈r,x∈e.kids) (λr b=>wtEs r b) ?_ ?_ ⟨a2,λx hx=>hx⟩
  ·rintro b x xs i hi0 hi hx ⟨b1,b2⟩
   by_cases Wv:0<=b
   ·have hm:=Hl (b2 x List.mem_cons_self)
    have hr:=hg (x,b) ⟨by simp only; omega,b1,by simp only; omega⟩ (by simp only; omega)
    simp only at hr
    have:=(QM x b).1
    refine .inl ⟨wtE x b,?_,⟨by omega,λy hy=>b2 y (List.mem_cons_of_mem _ hy)⟩,?_⟩
    ·simp(disch:=omega) [jH,hi,hx,Wv,hr]
    ·simp[wtEs,Wv]
   ·right
    have hw:wtEs (x::xs) b=b:=P7 _ _ Wv
    simp[jH,hi,Wv,hw]
  ·rintro b _
   simp[jH,wtEs]
 unfold bS
 cases e with | mk k n s kids =>
 simp only[Expr.kids,Expr.name,Expr.num,bkE]at *
 have hL:=loop (left-3-s.length-8*n.2.1.length-8*n.2.2.1.length) (by omega) (by omega)
 simp(disch:=omega) [zB,hL,wtE]
def wPa(x:Param):Nat:=8*x.2.1.2.1.length+8*x.2.1.2.2.1.length+x.1.length
def wSw(x:Switch):Nat:=x.1.length
def wFd(x:Field):Nat:=x.1.length
def wPg(x:xl):Nat:=x.1.length+x.2.1.length
def wRu(x:qG):Nat:=x.1.length+x.2.2.1.length+szE x.2.2.2.1+szE x.2.2.2.2.1
def wCk(x:Check):Nat:=x.1.length+szE x.2.2.2.1+szE x.2.2.2.2.1
def nF(f:Form):Nat:=f.1.length+f.2.1.length+f.2.2.1.length+f.2.2.2.1.length+f.2.2.2.2.1.length+f.2.2.2.2.2.1.length
def wF(f:Form):Nat:=20*nF f+GU wPa f.2.1+GU wSw f.1+GU wPg f.2.2.1+GU wFd f.2.2.2.1+GU wRu f.2.2.2.2.1+GU wCk f.2.2.2.2.2.1
theorem ES(f:Form)(h:FB f):∃ b,(bP f).run=some b/\(b=false->wF f<=600):=by
 obtain⟨hl1,fh,hl3,hl4,hl5,hl6,hs,hp,hg,hd,hr,hc⟩:=h
 obtain⟨n1,r1,a1,b1,P1⟩:=lj f.2.1 (zj zw) wPa (r:=y6 f) fh (λn k x hk hx hn h0 h6=>by
  obtain⟨q1,q2,q3,_⟩:=hp x hx
  refine⟨n-8*x.2.1.2.1.length-8*x.2.1.2.2.1.length-x.1.length,?_,by omega,by omega,λ_=>by unfold wPa; omega⟩
  simp(disch:=omega) [y6,hk,h0,hn,zB])
  (λn k hk=>by simp[y6,hk]) (600-20*(nF f:Int)) (by unfold nF; omega) (by omega)
 obtain⟨n2,r2,a2,b2,P2⟩:=lj f.1 (zj zt) wSw (r:=kZ f) hl1 (λn k x hk hx hn h0 h6=>by
  have q1:=hs x hx
  refine⟨n-x.1.length,?_,by omega,by omega,λ_=>by unfold wSw; omega⟩
  simp(disch:=omega) [kZ,hk,h0,hn,zB])
  (λn k hk=>by simp[kZ,hk]) n1 a1 b1
 obtain⟨n3,r3,a3,b3,P3⟩:=lj f.2.2.1 (zj zO) wPg (r:=yg f) hl3 (λn k x hk hx hn h0 h6=>by
  obtain⟨q1,q2⟩:=hg x hx
  refine⟨n-x.1.length-x.2.1.length,?_,by omega,by omega,λ_=>by unfold wPg; omega⟩
  simp(disch:=omega) [yg,hk,h0,hn,zB])
  (λn k hk=>by simp[yg,hk]) n2 a2 b2
 obtain⟨n4,r4,a4,b4,P4⟩:=lj f.2.2.2.1 (zj zy) wFd (r:=yd f) hl4 (λn k x hk hx hn h0 h6=>by
  have q1:=hd x hx
  refine⟨n-x.1.length,?_,by omega,by omega,λ_=>by unfold wFd; omega⟩
  simp(disch:=omega) [yd,hk,h0,hn,zB])
  (λn k hk=>by simp[yd,hk]) n3 a3 b3
 obtain⟨n5,r5,a5,b5,P5⟩:=lj f.2.2.2.2.1 (zj zX) wRu (r:=yb f) hl5 (λn k x hk hx hn h0 h6=>by
  obtain⟨q1,q2,q3,q4⟩:=hr x hx
  have m1:=QM x.2.2.2.1 (n-x.1.length-x.2.2.1.length)
  have m2:=QM x.2.2.2.2.1 (wtE x.2.2.2.1 (n-x.1.length-x.2.2.1.length))
  have s1:=V1 x.2.2.2.1 (n-x.1.length-x.2.2.1.length)
  have s2:=V1 x.2.2.2.2.1 (wtE x.2.2.2.1 (n-x.1.length-x.2.2.1.length))
  have w1:=fE x.2.2.2.1 (n-x.1.length-x.2.2.1.length) (by omega) (by omega) (by omega)
  have w2:=fE x.2.2.2.2.1 (wtE x.2.2.2.1 (n-x.1.length-x.2.2.1.length)) (by omega) (by omega) (by omega)
  refine⟨_,?_,by omega,Int.le_trans m2.1 (by omega),λh=>by have:=s2 h; have:=s1 (by omega); unfold wRu; omega⟩
  simp(disch:=omega) [yb,hk,h0,hn,zB,w1,w2])
  (λn k hk=>by simp[yb,hk]) n4 a4 b4
 obtain⟨n6,r6,a6,b6,P6⟩:=lj f.2.2.2.2.2.1 (zj zD) wCk (r:=y4 f) hl6 (λn k x hk hx hn h0 h6=>by
  obtain⟨q1,q3,q4⟩:=hc x hx
  have m1:=QM x.2.2.2.1 (n-x.1.length)
  have m2:=QM x.2.2.2.2.1 (wtE x.2.2.2.1 (n-x.1.length))
  have s1:=V1 x.2.2.2.1 (n-x.1.length)
  have s2:=V1 x.2.2.2.2.1 (wtE x.2.2.2.1 (n-x.1.length))
  have w1:=fE x.2.2.2.1 (n-x.1.length) (by omega) (by omega) (by omega)
  have w2:=fE x.2.2.2.2.1 (wtE x.2.2.2.1 (n-x.1.length)) (by omega) (by omega) (by omega)
  refine⟨_,?_,by omega,Int.le_trans m2.1 (by omega),λh=>by have:=s2 h; have:=s1 (by omega); unfold wCk; omega⟩
  simp(disch:=omega) [y4,hk,h0,hn,zB,w1,w2])
  (λn k hk=>by simp[y4,hk]) n5 a5 b5
 refine⟨decide (n6<0),?_,λhb => ?_⟩
 ·unfold bP
  have e0:∀ a b c d e g:Int,0<=a->a<=1048576->0<=b->b<=1048576->0<=c->c<=1048576->0<=d->d<=1048576->0<=e->e<=1048576->0<=g->g<=1048576->zF ((600:Int)-zF (20*zF (zF (zF (zF (zF (a+b)+c)+d)+e)+g)))=600-20*(a+b+c+d+e+g):=by
   intros; simp(disch:=omega) only[zB]
  rw[e0 _ _ _ _ _ _ (by omega) (by omega) (by omega) (by omega) (by omega) (by omega) (by omega) (by omega) (by omega) (by omega) (by omega) (by omega)]
  have r1:(su f (600-20*((f.1.length:Int)+f.2.1.length+f.2.2.1.length+f.2.2.2.1.length+f.2.2.2.2.1.length+f.2.2.2.2.2.1.length),0)).run=some n1:=by
   rw[<- r1]; unfold nF; congr
  have r2:(sx f (n1,0)).run=some n2:=r2
  have r3:(sb f (n2,0)).run=some n3:=r3
  have r4:(sj f (n3,0)).run=some n4:=r4
  have r5:(sG f (n4,0)).run=some n5:=r5
  have r6:(ss f (n5,0)).run=some n6:=r6
  simp[r1,r2,r3,r4,r5,r6]
 ·have:=of_decide_eq_false hb
  unfold wF
  omega
theorem z8y{f:Form}(h:wF f<=600):FL f:=by
 have a1:∀ x∈f.1,x.1.length<=GU wSw f.1:=λx hx=>rq (s:=wSw) hx
 have a2:∀ x∈f.2.1,8*x.2.1.2.1.length+8*x.2.1.2.2.1.length+x.1.length<=GU wPa f.2.1:=λx hx=>rq (s:=wPa) hx
 have a3:∀ x∈f.2.2.1,x.1.length+x.2.1.length<=GU wPg f.2.2.1:=λx hx=>rq (s:=wPg) hx
 have a4:∀ x∈f.2.2.2.1,x.1.length<=GU wFd f.2.2.2.1:=λx hx=>rq (s:=wFd) hx
 have a5:∀ x∈f.2.2.2.2.1,x.1.length+x.2.2.1.length+szE x.2.2.2.1+szE x.2.2.2.2.1<=GU wRu f.2.2.2.2.1:=λx hx=>rq (s:=wRu) hx
 have a6:∀ x∈f.2.2.2.2.2.1,x.1.length+szE x.2.2.2.1+szE x.2.2.2.2.1<=GU wCk f.2.2.2.2.2.1:=λx hx=>rq (s:=wCk) hx
 unfold wF nF at h
 refine⟨by omega,λx hx => ?_,λx hx => ?_,λx hx => ?_,λx hx => ?_,λx hx => ?_,λx hx => ?_⟩
 ·have:=a1 x hx; omega
 ·have:=a2 x hx; omega
 ·have:=a3 x hx; omega
 ·have:=a4 x hx; omega
 ·have:=a5 x hx; omega
 ·have:=a6 x hx; omega
theorem FV(f:Form)(hw:wf zT f)(hb:bk zT f<=1048576):∃ b,(bP f).run=some b/\(b=false->FS f/\wF f<=600):=by
 obtain⟨b,hr,hf⟩:=ES f (z3I hw hb)
 exact⟨b,hr,λh=>⟨z8a hw (z3I hw hb) (z8y (hf h)),hf h⟩⟩
theorem rj{α:Type}(l m:List α)(d:α)(p:α->α->Bool){r:Int->T (Int⊕(Unit⊕Bool))}(hl:l.length<=1000000)
  (step:∀ (k:Nat) (x y:α),k<l.length->k<m.length->nth l (k:Int) d=x->nth m (k:Int) d=y->x∈l->y∈m->(r (k:Int)).run=some (if p x y=true then .inl (zF ((k:Int)+1))else .inr (.inr false)))
  (done:(r (l.length:Int)).run=some (.inr (.inl ()))) :
  (T.ite (((l.length:Nat):Int) != ((m.length:Nat):Int)) (.ret false) (T.bind (T.loop r 0) (Sum.elim (λ_=>.ret true) λx=>.ret x))).run=some (uy p l m):=by
 by_cases c:l.length=m.length
 ·rw[z8 (by simp[c]),z6 (bF l m d p c (λk x y hk hx hy mx my=>by rw[step k x y hk (by omega) hx hy mx my,fB k _ hk (by omega)]) done)]
  cases uy p l m<;>rfl
 ·rw[za (bne_iff_ne.2 (by omega)),cA p c,z7]
theorem HF(a b c d:Expr)(h1:vG a)(h2:vG b)(h3:vG c)(h4:vG d):(dY a b c d).run=some (sameE a b&&sameE c d):=by
 have:=Wz h1
 have:=Wz h3
 unfold dY
 rw[z6 (rX a b h1.2.2 h2.2.2 (by omega))]
 cases sameE a b with
 | false=>rfl
 | true=>rw[zh,z6 (rX c d h3.2.2 h4.2.2 (by omega))]; rfl
theorem H6{r:Rat}(h:wW 100 r):jt r:=by
 obtain⟨a,b,c,d⟩:=h
 exact⟨a,b,by omega,by omega⟩
theorem oS(f g:Form)(hf:FS f)(hg:FS g):(eE f g).run=some (Y4 f g):=by
 have hn:=hf.n
 have e1:(uT f.1 g.1).run=some (uy Q5 f.1 g.1):=by
  refine rj f.1 g.1 (zj zt) Q5 (r:=xC f.1 g.1 f.1.length) (by omega) (λk x y hk hm hx hy _ _ => ?_) ?_
  ·unfold xC
   rw[za (ua hk),zb (zW hk),zb (zW hm),hx,hy]
   show(T.ite (!Q5 x y) _ _).run=_
   cases Q5 x y<;>rfl
  ·simp[xC]
 have e3:(jY f.2.2.1 g.2.2.1).run=some (uy Qa f.2.2.1 g.2.2.1):=by
  refine rj f.2.2.1 g.2.2.1 (zj zO) Qa (r:=xU f.2.2.1 g.2.2.1 f.2.2.1.length) (by omega) (λk x y hk hm hx hy _ _ => ?_) ?_
  ·unfold xU
   rw[za (ua hk),zb (zW hk),zb (zW hm),hx,hy]
   show(T.ite (!Qa x y) _ _).run=_
   cases Qa x y<;>rfl
  ·simp[xU]
 have e4:(ji f.2.2.2.1 g.2.2.2.1).run=some (uy ZL f.2.2.2.1 g.2.2.2.1):=by
  refine rj f.2.2.2.1 g.2.2.2.1 (zj zy) ZL (r:=xJ f.2.2.2.1 g.2.2.2.1 f.2.2.2.1.length) (by omega) (λk x y hk hm hx hy _ _ => ?_) ?_
  ·unfold xJ
   rw[za (ua hk),zb (zW hk),zb (zW hm),hx,hy]
   show(T.ite (!ZL x y) _ _).run=_
   cases ZL x y<;>rfl
  ·simp[xJ]
 have e2:(xQ f.2.1 g.2.1 (λz0 z1=>ur z0 z1)).run=some (uy Z5 f.2.1 g.2.1):=by
  refine rj f.2.1 g.2.1 (zj zw) Z5 (r:=ql g.2.1 (λz0 z1=>ur z0 z1) f.2.1 f.2.1.length) (by omega) (λk x y hk hm hx hy mx my => ?_) ?_
  ·have h:=Zq x.2.1 y.2.1 (H6 (hf.p x mx).2) (H6 (hg.p y my).2)
   unfold Z5
   cases c:zl x.1 y.1<;>cases c2:gI x.2.1 y.2.1<;>simp(disch:=omega) [ql,ur,hk,hx,hy,h,c,c2]
  ·simp[ql]
 have e5:(w7 f.2.2.2.2.1 g.2.2.2.2.1 (λz0 z1=>vn z0 z1)).run=some (uy ns f.2.2.2.2.1 g.2.2.2.2.1):=by
  refine rj f.2.2.2.2.1 g.2.2.2.2.1 (zj zX) ns (r:=qt g.2.2.2.2.1 (λz0 z1=>vn z0 z1) f.2.2.2.2.1 f.2.2.2.2.1.length) (by omega) (λk x y hk hm hx hy mx my => ?_) ?_
  ·obtain⟨_,_,x1,x2⟩:=hf.r x mx
   obtain⟨_,_,y1,y2⟩:=hg.r y my
   have h:=HF _ _ _ _ x1 y1 x2 y2
   have h2:(vn x y).run=some (ns x y):=by
    unfold vn ns
    cases zl x.1 y.1<;>cases x.2.1==y.2.1<;>cases zl x.2.2.1 y.2.2.1<;>simp[h]
   cases c:ns x y<;>simp(disch:=omega) [qt,hk,hx,hy,h2,c]
  ·simp[qt]
 have e6:(xO f.2.2.2.2.2.1 g.2.2.2.2.2.1 (λz0 z1=>vk z0 z1)).run=some (uy rS f.2.2.2.2.2.1 g.2.2.2.2.2.1):=by
  refine rj f.2.2.2.2.2.1 g.2.2.2.2.2.1 (zj zD) rS (r:=qm g.2.2.2.2.2.1 (λz0 z1=>vk z0 z1) f.2.2.2.2.2.1 f.2.2.2.2.2.1.length) (by omega) (λk x y hk hm hx hy mx my => ?_) ?_
  ·obtain⟨_,x1,x2⟩:=hf.c x mx
   obtain⟨_,y1,y2⟩:=hg.c y my
   have h:=HF _ _ _ _ x1 y1 x2 y2
   have h2:(vk x y).run=some (rS x y):=by
    unfold vk rS
    cases zl x.1 y.1<;>cases x.2.1==y.2.1<;>cases x.2.2.1==y.2.2.1<;>simp[h]
   cases c:rS x y<;>simp(disch:=omega) [qm,hk,hx,hy,h2,c]
  ·simp[qm]
 unfold eE Y4
 rw[z6 e1]
 cases uy Q5 f.1 g.1 with | false=>rfl | true => ?_
 rw[zh,z6 e3]
 cases uy Qa f.2.2.1 g.2.2.1 with | false=>simp | true => ?_
 rw[zh,z6 e4]
 cases uy ZL f.2.2.2.1 g.2.2.2.1 with | false=>simp | true => ?_
 rw[zh,z6 e2]
 cases uy Z5 f.2.1 g.2.1 with | false=>rfl | true => ?_
 rw[zh,z6 e5]
 cases uy ns f.2.2.2.2.1 g.2.2.2.2.1 with | false=>rfl | true => ?_
 rw[zh,z6 e6]
 rfl
def prF(f:Form):zf:=if sS f=true then frS f else[]
theorem F3{f:Form}(hF:FS f)(h:sS f=true):M0 f:=by
 unfold sS at h
 simp only[Bool.and_eq_true]at h
 exact Fy hF h.2.2.2.1 h.2.2.2.2.1 h.2.2.2.2.2.1
theorem W5(f:Form)(h:FS f):(jQ f).run=some (prF f):=by
 unfold jQ prF
 rw[z6 (dw f h)]
 cases c:sS f with
 | false=>rfl
 | true=>rw[z8 (by rfl),z6 (cJ f (F3 h c))]; rfl
theorem Uo(f:Form)(h:FS f):(mQ f).run=some (prF f):=by
 unfold mQ prF
 rw[z6 (Xa f h)]
 cases c:sS f with
 | false=>rfl
 | true=>rw[z8 (by rfl),z6 (sI f (F3 h c))]; rfl
theorem rL(x:Jn [zT,zT])(hw:wfL [zT,zT] x)(hb:bkL [zT,zT] x<=1048576):(ym (MQ [zT,zT] x).1 (MQ [zT,zT] x).2).run=some true:=by
 obtain⟨f,g,u⟩:=x
 have G5:bk zT f+(bk zT g+0)<=1048576:=hb
 obtain⟨b1,r1,F⟩:=FV f hw.1 (by omega)
 obtain⟨b2,r2,G⟩:=FV g hw.2.1 (by omega)
 show(ym f g).run=some true
 unfold ym
 rw[z6 (a:=b1||b2) (by rw[z6 r1]; cases b1<;>simp[r2])]
 cases b1 with
 | true=>rfl
 | false=>cases b2 with
  | true=>rfl
  | false =>
   have F:=(F rfl).1
   have G:=(G rfl).1
   simp[W5 f F,Uo f F,dw f F,Xa f F,oS f g F G,Jl f g F G,oS f f F F,DU,uo,DR]
end Go.AM.Lf
