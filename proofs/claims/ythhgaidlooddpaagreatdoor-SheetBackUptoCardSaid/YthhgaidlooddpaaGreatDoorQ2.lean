/-
  Plain laws of the lifted program, part 2.
-/
import Derived.Test.YthhgaidlooddpaaGreatDoorLf0
import Derived.Test.YthhgaidlooddpaaGreatDoorAmA
import Derived.Test.YthhgaidlooddpaaGreatDoorAmD
import Derived.Test.YthhgaidlooddpaaGreatDoorQ0
import Derived.Test.YthhgaidlooddpaaGreatDoorQ1
set_option linter.unusedVariables false
open Go.AM.T (G0 ik mN qz vp z6 z7 z8 zK za zb zg zj zo)
namespace Go.AM.Lf
open PL
mutual
def fk(deep:Nat)(left:Int):Expr->Bool×Int
 | .mk k n s l=>if left-1<0\/(decide (deep<32)&&uX (.mk k n s l))=false then(false,left-1)else yM (deep+1) (left-1) l
def yM(deep:Nat)(left:Int):List Expr->Bool×Int
 | []=>(true,left)
 | e::r=>if(fk deep left e).1=true then yM deep (fk deep left e).2 r else(false,(fk deep left e).2)
end
mutual
theorem Gv:∀ (e:Expr) (d:Nat) (left:Int),0<=left->(fk d left e).1=(xM d e&&decide ((xw e:Int)<=left))/\((fk d left e).1=true->(fk d left e).2=left-xw e)/\(fk d left e).2<=left /\ -1<=(fk d left e).2
 | .mk k n s l,d,left,h=>by
  have e1:xM d (.mk k n s l)=((decide (d<32)&&uX (.mk k n s l))&&uC (d+1) l):=by unfold xM; rw[Bool.and_assoc]
  have e2:xw (.mk k n s l)=1+wR l:=rfl
  unfold fk
  rw[e1,e2]
  by_cases c:left-1<0
  ·rw[if_pos (.inl c)]
   refine⟨?_,λh=>by simp at h,by omega,by dsimp only; omega⟩
   dsimp only
   rw[show decide (((1+wR l:Nat):Int)<=left)=false from decide_eq_false (by omega),Bool.and_false]
  ·cases q:(decide (d<32)&&uX (.mk k n s l))with
   | false=>rw[if_pos (.inr rfl)]; exact⟨rfl,λh=>by simp at h,by dsimp only; omega,by dsimp only; omega⟩
   | true =>
    rw[if_neg (by rintro(h | h); exact c h; simp at h),Bool.true_and]
    obtain⟨h1,h2,h3,h4⟩:=Ca l (d+1) (left-1) (by omega)
    refine⟨?_,λh=>by rw[h2 h]; omega,by omega,by omega⟩
    rw[h1]
    congr 1
    exact decide_eq_decide.2 (by omega)
theorem Ca:∀ (l:List Expr) (d:Nat) (left:Int),0<=left->(yM d left l).1=(uC d l&&decide ((wR l:Int)<=left))/\((yM d left l).1=true->(yM d left l).2=left-wR l)/\(yM d left l).2<=left /\ -1<=(yM d left l).2
 | [],d,left,h=>by
  refine⟨?_,λ_ => ?_,Int.le_refl _,?_⟩
  ·show true=(true&&decide (((0:Nat):Int)<=left)); simp; omega
  ·show left=left-((0:Nat):Int); omega
  ·show -1<=left; omega
 | e::r,d,left,h=>by
  have e1:uC d (e::r)=(xM d e&&uC d r):=rfl
  have e2:wR (e::r)=xw e+wR r:=rfl
  obtain⟨h1,h2,h3,h4⟩:=Gv e d left h
  unfold yM
  rw[e1,e2]
  cases q:(fk d left e).1 with
  | false =>
   rw[if_neg (by simp)]
   refine⟨?_,λh=>by simp at h,h3,h4⟩
   dsimp only
   rw[q]at h1
   cases ho:xM d e with
   | false=>rfl
   | true =>
    rw[ho,Bool.true_and]at h1
    have:=of_decide_eq_false h1.symm
    rw[show decide (((xw e+wR r:Nat):Int)<=left)=false from decide_eq_false (by omega),Bool.and_false]
  | true =>
   rw[if_pos rfl]
   have hq:=h2 q
   rw[q]at h1
   have h1:=h1.symm
   rw[Bool.and_eq_true,decide_eq_true_eq]at h1
   obtain⟨g1,g2,g3,g4⟩:=Ca r d (fk d left e).2 (by omega)
   refine⟨?_,λh=>by rw[g2 h]; omega,by omega,by omega⟩
   rw[g1,h1.1,Bool.true_and]
   congr 1
   exact decide_eq_decide.2 (by omega)
end
theorem EI(e:Expr)(deep:Nat)(left:Int)(h:allOk e)(hl:xw e<=1000000)(hl0:0<=left)(fj:left<=100000)(hd:deep<=32):(jY e (deep:Int) left).run=some (fk deep left e):=by
 unfold jY
 refine ik (λx:Expr×Int×Int=>allOk x.1/\0<=x.2.1/\x.2.1<=32/\xw x.1<=1000000/\0<=x.2.2/\x.2.2<=100000) (λx=>xw x.1) (λx=>fk x.2.1.toNat x.2.2 x.1) (λx hx g hg => ?_) (x:=(e,(deep:Int),left)) ⟨h,by dsimp only; omega,by dsimp only; omega,by dsimp only; omega,by dsimp only; omega,by dsimp only; omega⟩
 obtain⟨e,d,L⟩:=x
 obtain⟨ha,MG,DS,hn,zg6,hlf⟩:=hx
 dsimp only at ha MG DS hn zg6 hlf
 obtain⟨D,rfl⟩:∃ D:Nat,d=(D:Int):=⟨d.toNat,by omega⟩
 cases e with | mk k n s kids =>
 obtain⟨Wj,Dj⟩:=ha
 have F4:xw (.mk k n s kids)=1+wR kids:=by unfold xw; rfl
 rw[F4]at hn
 have ew:zF (L-1)=L-1:=zA (by omega) (by omega)
 have SR:=VO (.mk k n s kids) Wj
 simp only[Int.toNat_natCast]
 unfold gx
 rw[ew]
 have head:((.ite (decide ((L-1)<(0:Int))) (.ret (true,L-1)) (.ite (decide ((32:Int)<=(D:Int))) (.ret (true,L-1)) (T.bind (yL (.mk k n s kids)) λr=>.ret ((!r),L-1)))):T (Bool×Int)).run =
   some (decide (L-1<0\/(decide (D<32)&&uX (.mk k n s kids))=false),L-1):=by
  by_cases c0:L-1<0
  ·rw[za (decide_eq_true c0),z7,decide_eq_true (.inl c0)]
  ·rw[z8 (decide_eq_false c0)]
   by_cases c:D<32
   ·rw[z8 (decide_eq_false (by omega)),z6 SR,z7,decide_eq_true c,Bool.true_and]
    cases uX (.mk k n s kids)<;>simp[c0]
   ·rw[za (decide_eq_true (by omega)),z7,decide_eq_false c,Bool.false_and]
    simp
 rw[z6 head]
 dsimp only
 unfold fk
 by_cases q:L-1<0\/(decide (D<32)&&uX (.mk k n s kids))=false
 ·rw[za (decide_eq_true q),z7,if_pos q]
 ·rw[z8 (decide_eq_false q),if_neg q]
  have q1:¬ L-1<0:=λh=>q (.inl h)
  have hD:D<32:=by
   by_cases c:D<32
   ·exact c
   ·exact absurd (.inr (by rw[decide_eq_false c]; rfl)) q
  have ed:zF ((D:Int)+1)=((D+1:Nat):Int):=by rw[zA (by omega) (by omega)]; omega
  have loop:∃ z,(zP (λy0 y1 y2=>g (y0,y1,y2)) kids (kids.length:Int) (((D:Int),()),((0:Int),L-1))).run=some z /\
    (((yM (D+1) (L-1) kids).1=true/\z=.inl (yM (D+1) (L-1) kids).2)\/((yM (D+1) (L-1) kids).1=false/\∃ i:Int,0<=i/\z=.inr (i,(yM (D+1) (L-1) kids).2))):=by
   refine T.qH (r:=zB (λy0 y1 y2=>g (y0,y1,y2)) kids (kids.length:Int)) (λst:(Int×Unit)×Int×Int=>∃ (j:Nat) (B:Int),st=(((D:Int),()),(j:Int),B)/\j<=kids.length/\0<=B/\B<=100000 /\
    yM (D+1) B (kids.drop j)=yM (D+1) (L-1) kids) (λst=>kids.length-st.2.1.toNat) _ (λst xJ => ?_) ⟨0,L-1,rfl,by omega,by omega,by omega,by rw[List.drop_zero]⟩
   obtain⟨j,B,rfl,hj,hB0,hB,GG⟩:=xJ
   by_cases c:j<kids.length
   ·have hdr:kids.drop j=kids[j]::kids.drop (j+1):=List.drop_eq_getElem_cons c
    rw[hdr]at GG
    rw[show yM (D+1) B (kids[j]::kids.drop (j+1))=if(fk (D+1) B kids[j]).1=true then yM (D+1) (fk (D+1) B kids[j]).2 (kids.drop (j+1))else(false,(fk (D+1) B kids[j]).2)from rfl]at GG
    have Q9:=eU Dj _ (List.getElem_mem c)
    have Nz:=Gv kids[j] (D+1) B hB0
    have EA:xw kids[j]<1+wR kids:=by have:=lE (List.getElem_mem c); omega
    have Ws:=hg (kids[j],((D+1:Nat):Int),B) ⟨Q9,by dsimp only; omega,by dsimp only; omega,by dsimp only; omega,by dsimp only; omega,by dsimp only; omega⟩ (by dsimp only; rw[F4]; exact EA)
    dsimp only at Ws
    simp only[Int.toNat_natCast]at Ws
    have hf:(j3 (λy0 y1 y2=>g (y0,y1,y2)) kids[j] (D:Int) B).run=some (!(fk (D+1) B kids[j]).1,(fk (D+1) B kids[j]).2):=by
     unfold j3
     rw[ed,z6 Ws]; rfl
    unfold zB
    dsimp only
    rw[za (uL c),zb (qf c),kO c,z6 hf]
    dsimp only
    cases hk:(fk (D+1) B kids[j]).1 with
    | true =>
     left
     rw[hk,if_pos rfl]at GG
     rw[z8 (by rfl),z7]
     have hlen:=ox kids
     rw[ll j _ c (by omega)]
     have hb:=Nz.1
     rw[hk]at hb
     have hb:=hb.symm
     rw[Bool.and_eq_true,decide_eq_true_eq]at hb
     have h2:=Nz.2.1 hk
     refine⟨_,rfl,⟨j+1,(fk (D+1) B kids[j]).2,rfl,c,by omega,by omega,GG⟩,?_⟩
     simp only[Int.toNat_natCast]
     omega
    | false =>
     right
     rw[hk,if_neg (by simp)]at GG
     rw[za (by rfl),z7]
     exact⟨_,rfl,.inr ⟨by rw[<- GG],(j:Int),by omega,by rw[<- GG]⟩⟩
   ·right
    have hj2:j=kids.length:=by omega
    subst hj2
    rw[List.drop_length]at GG
    unfold zB
    dsimp only
    rw[z8 (kf _),z7]
    exact⟨_,rfl,.inl ⟨by rw[<- GG]; rfl,by rw[<- GG]; rfl⟩⟩
  obtain⟨z,hz,hc⟩:=loop
  have hcf:(q7 (λy0 y1 y2=>g (y0,y1,y2)) kids ((D:Int),()) (L-1)).run=some (!(yM (D+1) (L-1) kids).1,(yM (D+1) (L-1) kids).2):=by
   unfold q7 qC
   rcases hc with⟨ho,rfl⟩ | ⟨ho,i,hi,rfl⟩
   ·have:((T.bind (zP (λy0 y1 y2=>g (y0,y1,y2)) kids (kids.length:Int) (((D:Int),()),((0:Int),L-1)))<|Sum.elim (λv2=>.ret ((-1:Int),v2)) (λ(x2,v3)=>.ret (x2,v3))):T (Int×Int)).run=some (-1,(yM (D+1) (L-1) kids).2):=by
     rw[z6 hz]; rfl
    rw[z6 this,ho]; rfl
   ·have:((T.bind (zP (λy0 y1 y2=>g (y0,y1,y2)) kids (kids.length:Int) (((D:Int),()),((0:Int),L-1)))<|Sum.elim (λv2=>.ret ((-1:Int),v2)) (λ(x2,v3)=>.ret (x2,v3))):T (Int×Int)).run=some (i,(yM (D+1) (L-1) kids).2):=by
     rw[z6 hz]; rfl
    rw[z6 this,ho,z7,decide_eq_true hi]; rfl
  rw[show Expr.kids (.mk k n s kids)=kids from rfl,z6 hcf]
  dsimp only
  rw[z7,Bool.not_not]
def KQ(e:Expr):Bool:=xM 0 e&&decide (xw e<=256)
theorem Nr(e:Expr)(h:allOk e)(hn:xw e<=1000000):(uv e).run=some (KQ e):=by
 unfold uv KQ
 have:=EI e 0 256 h hn (by omega) (by omega) (by omega)
 have this:(jY e 0 256).run=some (fk 0 256 e):=this
 rw[z6 this,z7,(Gv e 0 256 (by omega)).1]
 congr 2
 exact decide_eq_decide.2 (by omega)
def kJ(e:Expr):Prop:=allOk e/\bkE e<=300*xw e
def PR.cr(N:Nat):PR->Prop
 | .ok e r _=>kJ e/\xw e+r.length<=N
 | _=>True
theorem Zl(e:Expr):1<=xw e:=by cases e; unfold xw; omega
theorem j9:uR zR:=⟨bz,bz,by show(0:Nat)<=100; omega,by show(0:Nat)<=100; omega⟩
theorem dw(k:Int)(n:Rat)(s:ze)(hn:uR n)(hs:s.length<=24):kJ (.mk k n s []):=by
 refine⟨⟨hn,trivial⟩,?_⟩
 have h3:=hn.2.2.1
 have h4:=hn.2.2.2
 show 1+((1+((List.length n.2.1+1)+((List.length n.2.2.1+1)+1)))+((List.length s+1)+((0+1)+1)))<=300*(1+0)
 omega
theorem Jl(k:Int){a:Expr}(h:kJ a):kJ (b9 k [a]):=by
 refine⟨⟨j9,h.1,trivial⟩,?_⟩
 show 1+((1+((0+1)+((0+1)+1)))+((0+1)+(((bkE a+0)+1)+1)))<=300*(1+(xw a+0))
 have:=h.2
 omega
theorem Vl(k:Int){a b:Expr}(h:kJ a)(h2:kJ b):kJ (b9 k [a,b]):=by
 refine⟨⟨j9,h.1,h2.1,trivial⟩,?_⟩
 show 1+((1+((0+1)+((0+1)+1)))+((0+1)+(((bkE a+(bkE b+0))+1)+1)))<=300*(1+(xw a+(xw b+0)))
 have:=h.2
 have:=h2.2
 omega
theorem nd1(k:Int)(a:Expr):xw (b9 k [a])=1+xw a:=rfl
theorem nd2(k:Int)(a b:Expr):xw (b9 k [a,b])=1+(xw a+xw b):=rfl
theorem PR.rN{N:Nat}{R:PR}{f:Expr->ze->Bool->PR}{M:Nat}(h:R.cr M)(hf:∀ e r l,kJ e->xw e+r.length<=M->(f e r l).cr N):(R.bind f).cr N:=by
 cases R with
 | no=>trivial
 | er=>trivial
 | ok e r l=>exact hf e r l h.1 h.2
theorem z3n(t:ze)(ht:t.length<=400):uR (nN t):=by
 unfold nN
 split
 ·rename_i n d h
  have:=W6 (List.isPrefixOf [45] t) ht h
  exact⟨this.1,this.2.1,by have:=this.2.2.1; omega,by have:=this.2.2.2; omega⟩
 ·exact j9
theorem Xd{z:Rat}(hz:uR z)(t r:ze)(l:Bool)(N:Nat)(h:r.length+1<=N):(Xf z t r l).cr N:=by
 unfold Xf
 split
 ·exact⟨dw 1 z [] hz (by simp),by show 1+0+r.length<=N; omega⟩
 ·exact⟨dw 1 _ [] (z3n t (by omega)) (by simp),by show 1+0+r.length<=N; omega⟩
theorem NM{z:Rat}(hz:uR z)(d:Nat)(c:UInt8)(r:ze)(l:Bool)(hc:uK c=true):(tG z d (c::r) l).cr (c::r).length:=by
 have hd:(c::r).dropWhile uK=r.dropWhile uK:=by rw[List.dropWhile_cons_of_pos hc]
 have hl:=(lC uK r).length_le
 unfold tG
 rw[hd]
 split
 ·exact Xd hz _ _ _ _ (by simp)
 ·rename_i c' q e
  rw[e]at hl
  split
  ·split
   ·trivial
   ·have:=(lC uK q).length_le
    simp only[List.length_cons]at hl
    exact Xd hz _ _ _ _ (by simp only[List.length_cons]; omega)
  ·exact Xd hz _ _ _ _ (by simp only[List.length_cons]at hl ⊢; omega)
theorem Bu(p:UInt8->Bool):∀ (n:Nat) (r:ze),(gI p n r).1.length<=n
 | 0,_=>by unfold gI; simp
 | _+1,[]=>by unfold gI; simp
 | n+1,c::r=>by
  have:=Bu p n r
  unfold gI
  split
  ·simp only[List.length_cons]; omega
  ·simp
theorem DM{c:UInt8}(h:XJ c=true):wX c=true:=by unfold wX; rw[h]; rfl
theorem NG(c:UInt8)(r:ze)(l:Bool)(hc:XJ c=true):(El (c::r) l).cr (c::r).length:=by
 have h1:=Bu wX 24 (c::r)
 have h2:=congrArg List.length (ZR wX 24 (c::r))
 have h3:(gI wX 24 (c::r)).1=c::(gI wX 23 r).1:=by
  show(if wX c=true then(c::(gI wX 23 r).1,(gI wX 23 r).2)else([],c::r)).1=_
  rw[if_pos (DM hc)]
 rw[List.length_append,h3]at h2
 refine⟨dw 2 zR _ j9 h1,?_⟩
 show 1+0+(gI wX 24 (c::r)).2.length<=_
 simp only[List.length_cons]at h2 ⊢
 omega
theorem QD{m r q:ze}{c:UInt8}(h:xT m r=some (c,q)):q.length+1<=r.length:=by
 have:=(lr h).1.length_le
 simpa using this
theorem YK{K:Bool->ze->PR}(hK:∀ l q,(K l q).cr q.length)(m1 m2:UInt8)(k1 k2:Int):∀ (n:Nat) (e:Expr) (r:ze) (l:Bool) (N:Nat),kJ e->xw e+r.length<=N->(yB K m1 m2 k1 k2 n e r l).cr N
 | 0,_,_,_,_,_,_=>trivial
 | n+1,e,r,l,N,he,hN=>by
  unfold yB
  split
  ·exact⟨he,by have:=Hb r; omega⟩
  ·rename_i c q ht
   have hq:=QD ht
   refine PR.rN (hK l q) λe2 q2 l2 h1 h2 => ?_
   refine YK hK m1 m2 k1 k2 n _ q2 l2 N (Vl _ he h1) ?_
   rw[nd2]
   omega
theorem Y0{K:Bool->ze->PR}(hK:∀ l q,(K l q).cr q.length)(m1 m2:UInt8)(k1 k2:Int)(n:Nat)(l:Bool)(r:ze):(rowP K m1 m2 k1 k2 n l r).cr r.length :=
 PR.rN (hK l r) λe q l' h1 h2=>YK hK m1 m2 k1 k2 n e q l' _ h1 h2
theorem NT{z:Rat}(hz:uR z){F S:Nat->Bool->ze->PR}(hF:∀ d l q,(F d l q).cr q.length)(hS:∀ d l q,(S d l q).cr q.length)(d:Nat)(l:Bool)(r:ze):(lA z F S d l r).cr r.length:=by
 have hk:=Hb r
 unfold lA
 split
 ·trivial
 ·rename_i c q e
  rw[e]at hk
  simp only[List.length_cons]at hk
  split
  ·split
   ·trivial
   ·refine PR.rN (hF _ _ _) λe2 r2 l2 h1 h2=>⟨Jl 7 h1,?_⟩
    rw[nd1]; omega
  ·split
   ·split
    ·trivial
    ·refine PR.rN (hS _ _ _) λe2 r2 l2 h1 h2 => ?_
     split
     ·rename_i ht
      have:=QD ht
      exact⟨h1,by omega⟩
     ·trivial
   ·split
    ·rename_i hc
     have:=NM hz d c q l hc
     cases w:tG z d (c::q) l with
     | no=>trivial
     | er=>trivial
     | ok e2 r2 l2=>rw[w]at this; exact⟨this.1,by have:=this.2; simp only[List.length_cons]at this; omega⟩
    ·split
     ·rename_i hc
      have:=NG c q l hc
      exact⟨this.1,by have:=this.2; simp only[List.length_cons]at this; omega⟩
     ·trivial
theorem HI{z:Rat}(hz:uR z):∀ (n:Nat),(∀ d l r,(pF z n d l r).cr r.length)/\(∀ d l r,(pP z n d l r).cr r.length)/\(∀ d l r,(pS z n d l r).cr r.length)
 | 0=>⟨λ_ _ _=>by unfold pF; trivial,λ_ _ _=>by unfold pP; trivial,λ_ _ _=>by unfold pS; trivial⟩
 | n+1=>by
  obtain⟨h1,h2,h3⟩:=HI hz n
  refine⟨λd l r => ?_,λd l r => ?_,λd l r => ?_⟩
  ·unfold pF; exact NT hz h1 h3 d l r
  ·unfold pP; exact Y0 (h1 d) _ _ _ _ n l r
  ·unfold pS; exact Y0 (h2 d) _ _ _ _ n l r
theorem PR.WR{R:PR}{f:Expr->ze->Bool->PR}{M:Nat}(h:R≠.no)(hg:R.cr M)(hf:∀ e r l,kJ e->xw e+r.length<=M->f e r l≠.no):R.bind f≠.no:=by
 cases R with
 | no=>exact absurd rfl h
 | er=>intro h; cases h
 | ok e r l=>exact hf e r l hg.1 hg.2
theorem CD{K:Bool->ze->PR}(hK:∀ l q,(K l q).cr q.length)(m1 m2:UInt8)(k1 k2:Int):∀ (n:Nat) (e:Expr) (r:ze) (l:Bool),(∀ l q,q.length<=r.length->K l q≠.no)->r.length+1<=n->yB K m1 m2 k1 k2 n e r l≠.no
 | 0,_,_,_,_,h=>by omega
 | n+1,e,r,l,hT,h=>by
  unfold yB
  split
  ·intro h; cases h
  ·rename_i c q ht
   have hq:=QD ht
   refine PR.WR (hT l q (by omega)) (hK l q) λe2 q2 l2 h1 h2 => ?_
   have:=Zl e2
   exact CD hK m1 m2 k1 k2 n _ q2 l2 (λl q3 h3=>hT l q3 (by omega)) (by omega)
theorem D5{K:Bool->ze->PR}(hK:∀ l q,(K l q).cr q.length)(m1 m2:UInt8)(k1 k2:Int)(n:Nat)(l:Bool)(r:ze)(hT:∀ l q,q.length<=r.length->K l q≠.no)(h:r.length<=n):rowP K m1 m2 k1 k2 n l r≠.no:=by
 refine PR.WR (hT l r (Nat.le_refl _)) (hK l r) λe q l' h1 h2 => ?_
 have:=Zl e
 exact CD hK m1 m2 k1 k2 n e q l' (λl q3 h3=>hT l q3 (by omega)) (by omega)
theorem BO(z:Rat)(d:Nat)(r:ze)(l:Bool):tG z d r l≠.no:=by
 have fin:∀ t q,Xf z t q l≠.no:=λt q=>by unfold Xf; split<;>(intro h; cases h)
 unfold tG
 split
 ·exact fin _ _
 ·split
  ·split
   ·intro h; cases h
   ·exact fin _ _
  ·exact fin _ _
theorem Ss{z:Rat}(hz:uR z):∀ (n:Nat),(∀ d l r,3*r.length+1<=n->pF z n d l r≠.no)/\(∀ d l r,3*r.length+2<=n->pP z n d l r≠.no)/\(∀ d l r,3*r.length+3<=n->pS z n d l r≠.no)
 | 0=>⟨λ_ _ _ h=>by omega,λ_ _ _ h=>by omega,λ_ _ _ h=>by omega⟩
 | n+1=>by
  obtain⟨h1,h2,h3⟩:=Ss hz n
  obtain⟨g1,g2,g3⟩:=HI hz n
  refine⟨λd l r h => ?_,λd l r h => ?_,λd l r h => ?_⟩
  ·unfold pF
   have hk:=Hb r
   unfold lA
   split
   ·intro h; cases h
   ·rename_i c q e
    rw[e]at hk
    simp only[List.length_cons]at hk
    split
    ·split
     ·intro h; cases h
     ·exact PR.WR (h1 _ _ _ (by omega)) (g1 _ _ _) λ_ _ _ _ _=>by intro h; cases h
    ·split
     ·split
      ·intro h; cases h
      ·refine PR.WR (h3 _ _ _ (by omega)) (g3 _ _ _) λ_ _ _ _ _ => ?_
       split<;>(intro h; cases h)
     ·split
      ·exact BO z d _ l
      ·split<;>(intro h; cases h)
  ·unfold pP
   exact D5 (g1 d) _ _ _ _ n l r (λl q hq=>h1 d l q (by omega)) (by omega)
  ·unfold pS
   exact D5 (g2 d) _ _ _ _ n l r (λl q hq=>h2 d l q (by omega)) (by omega)
theorem F7(s:ze)(hs:s.length<=1000000)(ST:KT)(N:Nat)(hS:∀ m,m<=N->∀ d l r,d<=31->r <:+ s->pS zR m d l r≠.no->(ST (qA s r d l)).run=encR s d (pS zR m d l r))
  (n:Nat) (hn:n<=N+1) (d:Nat) (l:Bool) (r:ze) (hd:d<=31) (h:r <:+ s) (kK:pF zR n d l r≠.no):(xl ST (qA s r d l)).run=encR s d (pF zR n d l r):=by
 unfold xl
 obtain⟨y,hy⟩:∃ y,encR s d (pF zR n d l r)=some y:=by
  cases q:pF zR n d l r with
  | no=>exact absurd q kK
  | er=>exact⟨_,rfl⟩
  | ok=>exact⟨_,rfl⟩
 rw[hy]
 refine T.M5 (λn x y=>n<=N+1/\∃ d l r,d<=31/\r <:+ s/\x=qA s r d l/\pF zR n d l r≠.no/\encR s d (pF zR n d l r)=some y) (λx y => ?_) (λn x y hx g hg => ?_) (n:=n) ⟨hn,d,l,r,hd,h,rfl,kK,hy⟩
 ·rintro⟨_,d,l,r,_,_,_,h,_⟩
  exact h (by unfold pF; rfl)
 ·obtain⟨hn,d,l,r,hd,h,rfl,kK,hy⟩:=hx
  rw[<- hy]
  unfold pF at kK ⊢
  have hgF:∀ d l r,d<=31->r <:+ s->pF zR n d l r≠.no->(g (qA s r d l)).run=encR s d (pF zR n d l r):=by
   intro d l r hd h kK
   obtain⟨y,hy⟩:∃ y,encR s d (pF zR n d l r)=some y:=by
    cases q:pF zR n d l r with
    | no=>exact absurd q kK
    | er=>exact⟨_,rfl⟩
    | ok=>exact⟨_,rfl⟩
   rw[hy]
   exact hg _ _ ⟨by omega,d,l,r,hd,h,rfl,kK,hy⟩
  exact BP s hs (λy0=>g y0) ST (pF zR n) (pS zR n) hgF (hS n (by omega)) ((Jt zR s n).2.2) d l r hd h kK
theorem Hl(ST:KT)(m:ze)(k:vV)(p:zc):xB ST () m k p=z1D (xl ST) m k p:=rfl
theorem Kg(ST:KT)(m:ze)(k:vV)(p:zc):xv ST () m k p=z1D (xa ST) m k p:=rfl
theorem Dq{t:T ((AM.Expr×zc)⊕(vV×zc))}{o:Option ((AM.Expr×zc)⊕(vV×zc))}(h:t.run=o)(ho:o≠none):(T.bind t<|Sum.elim (λ(r,p1)=>.ret (.inl (r,p1))) (λ(pv,p2)=>.ret (.inr (pv,p2))):T ((AM.Expr×zc)⊕(vV×zc))).run=o:=by
 cases o with
 | none=>exact absurd rfl ho
 | some x=>rw[z6 h]; cases x<;>rfl
theorem Bs{s:ze}{d:Nat}{R:PR}(h:R≠.no):encR s d R≠none:=by
 cases R with
 | no=>exact absurd rfl h
 | er=>intro h; cases h
 | ok=>intro h; cases h
theorem BY(s:ze)(hs:s.length<=1000000)(ST:KT)(N:Nat)(hS:∀ m,m<=N->∀ d l r,d<=31->r <:+ s->pS zR m d l r≠.no->(ST (qA s r d l)).run=encR s d (pS zR m d l r))
  (n:Nat) (hn:n<=N+1) (d:Nat) (l:Bool) (r:ze) (hd:d<=31) (h:r <:+ s) (kK:pP zR n d l r≠.no):(xa ST (qA s r d l)).run=encR s d (pP zR n d l r):=by
 cases n with
 | zero=>exact absurd (by unfold pP; rfl) kK
 | succ n =>
  unfold pP at kK ⊢
  unfold xa
  refine Dq ?_ (Bs kK)
  rw[Hl]
  exact Cj s hs d (xl ST) (pF zR n d) (λl r h kK=>F7 s hs ST N hS n (by omega) d l r hd h kK) ((Jt zR s n).1 d) 42 47 (by decide) (by decide) 5 6 n l r h kK
theorem z3X(s:ze)(hs:s.length<=1000000)(n:Nat)(d:Nat)(l:Bool)(r:ze)(hd:d<=31)(h:r <:+ s)(kK:pS zR n d l r≠.no):(uc (qA s r d l)).run=encR s d (pS zR n d l r):=by
 have cK:∀ (n d:Nat) (l:Bool) (r:ze),pS zR n d l r≠.no->∃ y,encR s d (pS zR n d l r)=some y:=by
  intro n d l r kK
  cases q:pS zR n d l r with
  | no=>exact absurd q kK
  | er=>exact⟨_,rfl⟩
  | ok=>exact⟨_,rfl⟩
 unfold uc
 obtain⟨y,hy⟩:=cK n d l r kK
 rw[hy]
 refine T.M5 (λn x y=>∃ m,m<=n/\∃ d l r,d<=31/\r <:+ s/\x=qA s r d l/\pS zR m d l r≠.no/\encR s d (pS zR m d l r)=some y) (λx y => ?_) (λn x y hx g hg => ?_) (n:=n) ⟨n,Nat.le_refl _,d,l,r,hd,h,rfl,kK,hy⟩
 ·rintro⟨m,hm,d,l,r,_,_,_,h,_⟩
  have:m=0:=by omega
  subst this
  exact h (by unfold pS; rfl)
 ·obtain⟨m,hm,d,l,r,hd,h,rfl,kK,hy⟩:=hx
  rw[<- hy]
  cases m with
  | zero=>exact absurd (by unfold pS; rfl) kK
  | succ m =>
   have hg2:∀ k,k<=m->∀ d l r,d<=31->r <:+ s->pS zR k d l r≠.no->(g (qA s r d l)).run=encR s d (pS zR k d l r):=by
    intro k hk d l r hd h kK
    obtain⟨y,hy⟩:=cK k d l r kK
    rw[hy]
    exact hg _ _ ⟨k,by omega,d,l,r,hd,h,rfl,kK,hy⟩
   unfold pS at kK ⊢
   unfold ur
   refine Dq ?_ (Bs kK)
   rw[Kg]
   exact Cj s hs d (xa λy0=>g y0) (pP zR m d) (λl r h kK=>BY s hs (λy0=>g y0) m hg2 m (by omega) d l r hd h kK) ((Jt zR s m).2.1 d) 43 45 (by decide) (by decide) 3 4 m l r h kK
def oF(s:ze):PR->Expr×Int×Int×Bool
 | .no=>(zE,0,0,false)
 | .er k b _ _ l=>(zE,((vE s b:Nat):Int),k,l)
 | .ok e [] l=>(e,0,0,l)
 | .ok _ (c::r) l=>(zE,((vE s (c::r):Nat):Int),2,l)
def mI(z:Rat)(s:ze):PR:=pS z (3*s.length+3) 0 false s
theorem Ll{z:Rat}(hz:uR z)(s:ze):mI z s≠.no:=(Ss hz _).2.2 0 false s (Nat.le_refl _)
theorem Rz(z:Rat)(s:ze):(mI z s).Yh s:=(Jt z s _).2.2 0 false s (List.suffix_refl s)
theorem G2{z:Rat}(hz:uR z)(s:ze):(mI z s).cr s.length:=(HI hz _).2.2 0 false s
theorem FW(s:ze)(hs:s.length<=1000000):∃ p,(jj (s,((0:Int),((0:Int),(false,()))))).run=some ((oF s (mI zR s)).1,((oF s (mI zR s)).2.1,((oF s (mI zR s)).2.2.1,p)))/\p.2.2.2.1=(oF s (mI zR s)).2.2.2:=by
 have kK:=Ll j9 s
 have hsf:=Rz zR s
 have hr:=z3X s hs (3*s.length+3) 0 false s (by omega) (List.suffix_refl s) kK
 have e0:qA s s 0 false=(s,((0:Int),((0:Int),(false,())))):=by unfold qA; rw[MM]; rfl
 rw[e0]at hr
 have hr:(uc (s,((0:Int),((0:Int),(false,()))))).run=encR s 0 (mI zR s):=hr
 unfold jj
 cases q:mI zR s with
 | no=>exact absurd q kK
 | er k b r d l =>
  rw[q]at hr
  refine⟨qA s r d l,?_,rfl⟩
  rw[z6 hr,Sum.elim_inr]
  rfl
 | ok e r l =>
  rw[q]at hr hsf
  cases r with
  | nil =>
   refine⟨qA s [] 0 l,?_,rfl⟩
   rw[z6 hr,Sum.elim_inl]
   dsimp only
   rw[vS,wT,VI,zg]
   rfl
  | cons c r =>
   refine⟨qA s (c::r) 0 l,?_,rfl⟩
   rw[z6 hr,Sum.elim_inl]
   dsimp only
   rw[vS,wT,Qc hsf,zj]
   rfl
def Bx(s:ze)(R:PR):Expr×Int×Int :=
 if(oF s R).2.2.1≠0 then(zE,((oF s R).2.1,(oF s R).2.2.1))
 else if(oF s R).2.2.2=true\/KQ (oF s R).1=false then(zE,((0:Int),(3:Int)))
 else((oF s R).1,((0:Int),(0:Int)))
def qu(s:ze):Expr×Int×Int:=Bx s (mI zR s)
theorem WL:kJ zE:=dw 0 zR [] j9 (by simp)
theorem YY{s:ze}{R:PR}{N:Nat}(h:R.cr N)(h1:1<=N):kJ (oF s R).1/\xw (oF s R).1<=N:=by
 have hz:kJ zE/\xw zE<=N:=⟨WL,h1⟩
 cases R with
 | no=>exact hz
 | er=>exact hz
 | ok e r l =>
  cases r with
  | nil=>exact⟨h.1,by have:=h.2; show xw e<=N; omega⟩
  | cons=>exact hz
theorem Ye(s:ze)(hs:s.length<=900000):(jH s).run=some (qu s):=by
 obtain⟨p,h1,h2⟩:=FW s (by omega)
 have hg:=YY (s:=s) (R:=mI zR s) (N:=s.length+1) (by
  have:=G2 j9 s
  cases q:mI zR s with
  | no=>trivial
  | er=>trivial
  | ok e r l=>rw[q]at this; exact⟨this.1,by have:=this.2; omega⟩) (by omega)
 unfold qu Bx
 generalize oF s (mI zR s)=w at h1 h2 hg ⊢
 obtain⟨e,at_,x,l⟩:=w
 dsimp only at h1 h2 hg ⊢
 unfold jH
 rw[z6 h1]
 dsimp only
 by_cases c:x≠0
 ·rw[za (by simpa using c),z7,if_pos c]
 ·rw[z8 (by simpa using c),if_neg c,h2]
  have hI:=Nr e hg.1.1 (by omega)
  rw[z6 (a:=(decide (l=true\/KQ e=false),(zE,(p,e))))]
  ·dsimp only
   by_cases c2:l=true\/KQ e=false
   ·rw[za (decide_eq_true c2),z7,if_pos c2]
   ·rw[z8 (decide_eq_false c2),z7,if_neg c2]
  ·cases l with
   | true=>rw[zj,z7]; simp
   | false =>
    rw[zg,z6 hI,z7]
    cases KQ e<;>simp
inductive QR where
 | no
 | er (k:Int) (bad:ze) (x:Expr) (r:ze) (d:Nat) (l:Bool)
 | ok (e:Expr) (r:ze) (l:Bool)
def QR.Yh(s:ze)(d:Nat):QR->Prop
 | .no=>True
 | .er k b _ r d' _=>k≠0/\b <:+ s/\r <:+ s/\d<=d'/\d'<=1000
 | .ok _ r _=>r <:+ s
def c7(a b:Rat):Bool:=((norm a).1==(norm b).1)&&(((norm a).2.1==(norm b).2.1)&&((norm a).2.2.1==(norm b).2.2.1))
theorem r8{a b:Rat}:c7 a b=true↔norm a=norm b:=by
 unfold c7
 rw[Bool.and_eq_true,Bool.and_eq_true,beq_iff_eq,beq_iff_eq,beq_iff_eq]
 constructor
 ·rintro⟨h1,h2,h3⟩
  exact Prod.ext h1 (Prod.ext h2 (Prod.ext h3 rfl))
 ·intro h; rw[h]; exact⟨rfl,rfl,rfl⟩
mutual
def sameE:Expr->Expr->Bool
 | .mk k n s l,.mk k' n' s' l'=>(k==k')&&(zi s s'&&(c7 n n'&&sameEs l l'))
def sameEs:List Expr->List Expr->Bool
 | [],[]=>true
 | a::r,b::r'=>sameE a b&&sameEs r r'
 | [],_::_=>false
 | _::_,[]=>false
end
theorem UW:∀ (a b:List Expr),a.length≠b.length->sameEs a b=false
 | [],[],h=>absurd rfl h
 | _::r,_::r',h=>by
  show(sameE _ _&&sameEs r r')=false
  rw[UW r r' (λe=>h (by simp[e])),Bool.and_false]
 | [],_::_,_=>rfl
 | _::_,[],_=>rfl
theorem mv(s:ze):zi s s=true:=by rw[xP]; simp
mutual
theorem yo:∀ (e:Expr),sameE e e=true
 | .mk k n s l=>by
  show((k==k)&&(zi s s&&(c7 n n&&sameEs l l)))=true
  rw[mv,r8.2 rfl,XG l]; simp
theorem XG:∀ (l:List Expr),sameEs l l=true
 | []=>rfl
 | a::r=>by
  show(sameE a a&&sameEs r r)=true
  rw[yo a,XG r]; rfl
end
theorem R2(R:Int->T (Int⊕(Unit⊕Bool)))(a b:List Expr)(hl:a.length=b.length)
  (step:∀ k (h:k<a.length) (h':k<b.length),(R (k:Int)).run=some (if sameE a[k] b[k]=true then .inl ((k+1:Nat):Int)else .inr (.inr false)))
  (done:(R (a.length:Int)).run=some (.inr (.inl ()))):(T.loop R 0).run=some (if sameEs a b=true then .inl ()else .inr false):=by
 have key:∀ (m k:Nat),k+m=a.length->(T.loop R (k:Int)).run=some (if sameEs (a.drop k) (b.drop k)=true then .inl ()else .inr false):=by
  intro m
  induction m with
  | zero =>
   intro k hk
   have:k=a.length:=by omega
   subst this
   rw[List.drop_length,hl,List.drop_length]
   rw[hl]at done
   exact qz done
  | succ m ih =>
   intro k hk
   have h1:k<a.length:=by omega
   have h2:k<b.length:=by omega
   rw[List.drop_eq_getElem_cons h1,List.drop_eq_getElem_cons h2]
   show _=some (if(sameE a[k] b[k]&&sameEs (a.drop (k+1)) (b.drop (k+1)))=true then _ else _)
   have st:=step k h1 h2
   cases q:sameE a[k] b[k]with
   | true =>
    rw[q,if_pos rfl]at st
    rw[vp st,Bool.true_and]
    exact ih (k+1) (by omega)
   | false =>
    rw[q,if_neg (by simp)]at st
    exact qz st
 have:=key a.length 0 (by omega)
 simpa using this
theorem sn(a b:Rat)(ha:uR a)(hb:uR b):(br a b).run=some (c7 a b):=by
 have na:=yd (k:=100) (by omega) ha
 have nb:=yd (k:=100) (by omega) hb
 unfold br c7
 rw[z6 (dr a (eE ha (by omega))),z6 (dr b (eE hb (by omega)))]
 cases((norm a).1==(norm b).1)with
 | false=>rfl
 | true =>
  rw[zj,z6 (lS _ _ (by have:=na.2.2.1; omega)),Bool.true_and]
  cases((norm a).2.1==(norm b).2.1)with
  | false=>rfl
  | true=>rw[zj,z6 (lS _ _ (by have:=na.2.2.2; omega)),z7,Bool.true_and]
theorem Eo(e:Expr):(Expr.kids e).length<=xw e:=by
 cases e with | mk k n s l =>
 have:=ox l
 show l.length<=1+wR l
 omega
theorem bK(a b:Expr)(ha:allOk a)(hb:allOk b)(la:xw a<=1000000):(bG a b).run=some (sameE a b):=by
 unfold bG
 refine ik (λx:Expr×Expr=>allOk x.1/\allOk x.2/\xw x.1<=1000000) (λx=>xw x.1) (λx=>sameE x.1 x.2) (λx hx g hg => ?_) (x:=(a,b)) ⟨ha,hb,la⟩
 obtain⟨a,b⟩:=x
 obtain⟨ha,hb,la⟩:=hx
 dsimp only at ha hb la ⊢
 cases a with | mk k n s l =>
 cases b with | mk k' n' s' l' =>
 have hk:=Eo (.mk k n s l)
 have hk:l.length<=xw (.mk k n s l):=hk
 unfold fT
 show _=some ((k==k')&&(zi s s'&&(c7 n n'&&sameEs l l')))
 have head:((.ite (k != k') (.ret true) (.ite (!(zi s s')) (.ret true) (T.bind (br n n') λr=>.ite (!r) (.ret true) (.ret ((Nat.cast (List.length l):Int) != (Nat.cast (List.length l'):Int)))))):T Bool).run=some (!((k==k')&&(zi s s'&&(c7 n n'&&((l.length:Int)==(l'.length:Int)))))):=by
  rw[bne]
  cases(k==k')with
  | false=>rfl
  | true =>
   rw[z8 (by rfl)]
   cases zi s s' with
   | false=>rfl
   | true =>
    rw[z8 (by rfl),z6 (sn n n' ha.1 hb.1)]
    cases c7 n n' with
    | false=>rfl
    | true=>rw[z8 (by rfl),z7]; rfl
 show(T.bind (.ite (k != k') (.ret true) (.ite (!(zi s s')) (.ret true) (T.bind (br n n') λr=>.ite (!r) (.ret true) (.ret ((Nat.cast (List.length l):Int) != (Nat.cast (List.length l'):Int)))))) _).run=_
 rw[z6 head]
 cases q:((k==k')&&(zi s s'&&(c7 n n'&&((l.length:Int)==(l'.length:Int)))))with
 | false =>
  rw[za (by rfl),z7]
  congr 1
  revert q
  by_cases hl:l.length=l'.length
  ·rw[show((l.length:Int)==(l'.length:Int))=true by simp[hl]]
   cases(k==k')<;>cases zi s s'<;>cases c7 n n'<;>simp
  ·rw[UW l l' hl]
   simp
 | true =>
  simp only[Bool.and_eq_true,beq_iff_eq]at q
  obtain⟨q1,q2,q3,q4⟩:=q
  have hl:l.length=l'.length:=by omega
  rw[z8 (by rfl),q2,q3,show(k==k')=true by simpa using q1,Bool.true_and,Bool.true_and,Bool.true_and]
  have key:(Qr (λy0 y1=>g (y0,y1)) (.mk k n s l) (.mk k' n' s' l') 0).run=some (if sameEs l l'=true then .inl ()else .inr false):=by
   refine R2 (gN (λy0 y1=>g (y0,y1)) (.mk k n s l) (.mk k' n' s' l')) l l' hl (λj h h' => ?_) ?_
   ·have hr:=hg (l[j],l'[j]) ⟨eU ha.2 _ (List.getElem_mem h),eU hb.2 _ (List.getElem_mem h'),by have:=lE (List.getElem_mem h); have e:xw (.mk k n s l)=1+wR l:=rfl; show xw l[j]<=1000000; omega⟩ (by have:=lE (List.getElem_mem h); have e:xw (.mk k n s l)=1+wR l:=rfl; show xw l[j]<xw (.mk k n s l); omega)
    unfold gN
    dsimp only
    rw[show Expr.kids (.mk k n s l)=l from rfl,show Expr.kids (.mk k' n' s' l')=l' from rfl,za (uL h),zb (qf h),zb (qf h'),kO h,kO h',z6 hr]
    cases sameE l[j] l'[j]with
    | false=>rfl
    | true=>rw[z8 (by rfl),z7,ll j _ h (by omega),if_pos rfl]
   ·unfold gN
    dsimp only
    rw[show Expr.kids (.mk k n s l)=l from rfl,z8 (kf _),z7]
  rw[z6 key]
  cases sameEs l l'<;>rfl
theorem z5z:zu 2=[2]:=by rw[kh (by omega),show 2 / 4294967296=0 from rfl,qk]; rfl
theorem TP:nN [50]=(false,[2],[1],()):=by
 have e:tA [50]=some (2,1):=by decide +kernel
 unfold nN
 rw[e]
 show va _ 2 1=_
 unfold va
 rw[if_neg (by decide),show 2 / Nat.gcd 2 1=2 from rfl,show 1 / Nat.gcd 2 1=1 from rfl,z5z,PK]
 rfl
def iO(s:ze):Expr:=.mk 2 zR s []
theorem Tq:norm (false,[2],[1],())=(false,[2],[1],()):=by
 rw[<- TP]
 have e:tA [50]=some (2,1):=by decide +kernel
 have:nN [50]=va (List.isPrefixOf [45] [50]) 2 1:=by
  unfold nN
  rw[e]
  rfl
 rw[this]
 exact Y2 _ _ _
theorem z1N:ug (nN [50])=true:=by
 rw[TP]
 unfold ug fc uM trimB
 rw[Tq]
 show(((zu 2==[2])&&((zu 1==[1])&&_))&&_)=true
 rw[z5z,PK]
 rfl
theorem Du(s:ze):kJ (qu s).1/\xw (qu s).1<=s.length+1:=by
 have hg:=YY (s:=s) (R:=mI zR s) (N:=s.length+1) (by
  have:=G2 j9 s
  cases q:mI zR s with
  | no=>trivial
  | er=>trivial
  | ok e r l=>rw[q]at this; exact⟨this.1,by have:=this.2; omega⟩) (by omega)
 have hz:kJ zE/\xw zE<=s.length+1:=⟨WL,by show(1:Nat)+0<=s.length+1; omega⟩
 unfold qu Bx
 split
 ·exact hz
 ·split
  ·exact hz
  ·exact hg
theorem zq{α:Type}(n:Nat)(t:T α):(T.zL (uq n 0 n n) t).run=t.run:=zK t rfl rfl rfl
theorem MR(s:ze)(h:s.length<=1000000000):(fV s).run=some (xA 32 [] s):=by
 have e:(strings_FieldsFunc s (λz0=>gy z0)).run=some (xA 32 [] s):=by
  unfold strings_FieldsFunc
  rw[zb (by omega),z7]
 unfold fV
 rw[z6 e,z7]
def yH:ze->Option (ze×Int×ze)
 | []=>none
 | b::r=>if b=61 then some ([],0,r)else if b=60 then(if[61].isPrefixOf r=true then some ([],2,r.drop 1)else some ([],1,r))else
   match yH r with
   | some (l,c,q)=>some (b::l,c,q)
   | none=>none
theorem VD:∀ {s:ze},(∀ b∈s,b≠60/\b≠61)->yH s=none
 | [],_=>rfl
 | b::r,h=>by
  have hb:=h b List.mem_cons_self
  unfold yH
  rw[if_neg hb.2,if_neg hb.1,VD λx hx=>h x (List.mem_cons_of_mem _ hx)]
theorem X9:∀ {a:ze} (t:ze),(∀ b∈a,b≠60/\b≠61)->yH (a++t)=(match yH t with | some (l,c,q)=>some (a++l,c,q) | none=>none)
 | [],t,_=>by
  show yH t=_
  cases yH t<;>rfl
 | b::a,t,h=>by
  have hb:=h b List.mem_cons_self
  show(if b=61 then _ else if b=60 then _ else match yH (a++t)with | some (l,c,q)=>some (b::l,c,q) | none=>none)=_
  rw[if_neg hb.2,if_neg hb.1,X9 t λx hx=>h x (List.mem_cons_of_mem _ hx)]
  cases yH t<;>rfl
theorem UT:∀ s:ze,(hJ s [60,61] = -1/\∀ b∈s,b≠60/\b≠61)\/∃ (a:ze) (c:UInt8) (r:ze),s=a++c::r/\(c=60\/c=61)/\(∀ b∈a,b≠60/\b≠61)/\hJ s [60,61]=(a.length:Int)
 | []=>.inl ⟨rfl,λb h=>by cases h⟩
 | b::r=>by
  by_cases hb:b=60\/b=61
  ·refine .inr ⟨[],b,r,rfl,hb,λx h=>absurd h List.not_mem_nil,?_⟩
   unfold hJ
   rw[if_pos (by rcases hb with rfl | rfl<;>rfl)]
   rfl
  ·have hn:b≠60/\b≠61:=⟨λh=>hb (.inl h),λh=>hb (.inr h)⟩
   have hc:([60,61]:ze).contains b=false:=by
    rw[List.contains_eq_mem,decide_eq_false_iff_not]
    simp[hn.1,hn.2]
   have e:hJ (b::r) [60,61]=if hJ r [60,61] == -1 then -1 else hJ r [60,61]+1:=by
    show(if([60,61]:ze).contains b=true then _ else _)=_
    rw[hc,if_neg (by simp)]
   rcases UT r with⟨h1,h2⟩ | ⟨a,c,q,rfl,h2,h3,h4⟩
   ·refine .inl ⟨by rw[e,h1]; rfl,λx hx => ?_⟩
    rcases List.mem_cons.1 hx with rfl | hx
    ·exact hn
    ·exact h2 x hx
   ·refine .inr ⟨b::a,c,q,rfl,h2,λx hx => ?_,?_⟩
    ·rcases List.mem_cons.1 hx with rfl | hx
     ·exact hn
     ·exact h3 x hx
    ·rw[e,h4,if_neg (by rw[beq_iff_eq]; omega),List.length_cons]; omega
theorem z10(a:ze)(c:UInt8)(r:ze):vq ((a.length:Nat):Int) ((a.length+1:Nat):Int) (a++c::r)=[c]:=by
 rw[jG]
 rw[show(a++c::r).take (a.length+1)=a++[c] by rw[List.take_append,List.take_of_length_le (by omega)]; simp]
 simp
theorem OU(a t:ze):vq (0:Int) ((a.length:Nat):Int) (a++t)=a:=by
 have:=jG (a++t) 0 a.length
 rw[List.drop_zero,List.take_left']at this
 ·exact this
 ·rfl
theorem O2(a:ze)(c:UInt8)(r:ze):vq ((a.length+1:Nat):Int) (((a++c::r).length:Nat):Int) (a++c::r)=r:=by
 rw[jG,List.take_length,show a++c::r=(a++[c])++r by simp,List.drop_left' (by simp)]
theorem EK(s p:ze)(h:s.length<=1000000000)(hp:p.length<=1000000):(strings_HasPrefix s p).run=some (List.isPrefixOf p s):=by
 have e:(xr s p).run=some (List.isPrefixOf p s):=by
  unfold xr
  rw[zb (λhd=>eQ.2 ⟨by omega,by omega,by have:=of_decide_eq_true hd; omega⟩),z7]
  have hc:vq (0:Int) ((p.length:Nat):Int) s=s.take p.length:=by
   have:=jG s 0 p.length
   rwa [List.drop_zero]at this
  rw[hc]
  congr 1
  rw[Bool.eq_iff_iff,Bool.and_eq_true,decide_eq_true_eq,xP,decide_eq_true_eq,List.isPrefixOf_iff_prefix,List.prefix_iff_eq_take]
  constructor
  ·rintro⟨-,e⟩; exact e.symm
  ·intro e
   exact⟨by have:=congrArg List.length e; rw[List.length_take]at this; omega,e.symm⟩
 unfold strings_HasPrefix
 rw[z6 e,z7]
def kM(eA s:ze):Expr×Expr×ze×Int:=match yH s with
 | none=>(zE,(zE,(([]:ze),(2:Int))))
 | some (l,c,r)=>if(qu l).2.2≠0 then((qu l).1,(zE,(([]:ze),(qu l).2.2)))
  else((qu l).1,((qu r).1,(jt c,(if(qu r).2.2=0/\¬ (0<=cW eA (jt c))then 2 else(qu r).2.2))))
theorem Zj(s eA:ze)(hs:s.length<=80000)(hg:eA.length<=1000):(vw s eA).run=some (kM eA s):=by
 have hI:(strings_IndexAny s [60,61]).run=some (hJ s [60,61]):=by
  unfold strings_IndexAny
  rw[zb ⟨by omega,by decide,by decide,by decide⟩,z7]
 unfold vw
 rw[z6 hI]
 rcases UT s with⟨h1,h2⟩ | ⟨a,c,r,rfl,hc,ha,hi⟩
 ·rw[h1,za (by rfl),z7]
  unfold kM
  rw[VD h2]
 ·have hlen:(a++c::r).length=a.length+(r.length+1):=by rw[List.length_append,List.length_cons]
  have hw:zF (((a.length:Nat):Int)+1)=((a.length+1:Nat):Int):=by rw[zA (by omega) (by omega)]; omega
  rw[hi,z8 (decide_eq_false (by omega)),hw,zb (eQ.2 ⟨by omega,by omega,by omega⟩),zb (eQ.2 ⟨by omega,by omega,by omega⟩),zb (eQ.2 ⟨by omega,by omega,by omega⟩),z10,O2,OU]
  have fin:∀ (cm:Int) (q:ze),yH (a++c::r)=some (a,cm,q)->q.length<=80000->(cm=0\/cm=1\/cm=2)->(T.bind (jH a) λ(r1,r2,e) =>
   .ite (e != (0:Int))
    (.ret (r1,(zE,(([]:ze),e))))
    (T.bind (T.bind (jH q) λ(r3,r4,e1) =>
       T.bind (.ite (e1==(0:Int))
          (T.bind (strings_Contains eA (jt cm)) λr5 =>
           .ret ((!r5),(r1,r3)))
          (.ret (false,(r1,r3))):T ((Bool×AM.Expr×AM.Expr))) λ(x1,v4,v5) =>
       .ite x1
        (.ret ((2:Int),(v4,v5)))
        (.ret (e1,(v4,v5))):T ((Int×AM.Expr×AM.Expr))) λ(e2,v6,v7) =>
     .ret (v6,(v7,(jt cm,e2)))):T (AM.Expr×AM.Expr×ze×Int)).run=some (kM eA (a++c::r)):=by
   intro cm q he hq hcm
   unfold kM
   rw[he,z6 (Ye a (by omega))]
   dsimp only
   have hQ:=Ye q (by omega)
   generalize qu a=A
   generalize qu q=B at hQ ⊢
   obtain⟨A1,A2,A3⟩:=A
   obtain⟨B1,B2,B3⟩:=B
   dsimp only
   by_cases e:A3≠0
   ·rw[if_pos e,za (by simpa using e),z7]
   ·rw[if_neg e,z8 (by simpa using e)]
    have hC:(strings_Contains eA (jt cm)).run=some (decide ((0:Int)<=cW eA (jt cm))):=by
     unfold strings_Contains
     rw[zb (by omega),z7]
    have inner:(T.bind (jH q) λ(r3,r4,e1) =>
       T.bind (.ite (e1==(0:Int))
          (T.bind (strings_Contains eA (jt cm)) λr5 =>
           .ret ((!r5),(A1,r3)))
          (.ret (false,(A1,r3))):T ((Bool×AM.Expr×AM.Expr))) λ(x1,v4,v5) =>
       .ite x1
        (.ret ((2:Int),(v4,v5)))
        (.ret (e1,(v4,v5))):T ((Int×AM.Expr×AM.Expr))).run=some ((if B3=0/\¬ (0<=cW eA (jt cm))then 2 else B3),(A1,B1)):=by
     rw[z6 hQ]
     dsimp only
     by_cases e2:B3=0
     ·subst e2
      have hb:(.ite (((0:Int))==(0:Int)) (T.bind (strings_Contains eA (jt cm)) λr5=>.ret ((!r5),(A1,B1))) (.ret (false,(A1,B1))):T ((Bool×AM.Expr×AM.Expr))).run=some ((!decide ((0:Int)<=cW eA (jt cm))),(A1,B1)):=by
       rw[za (by rfl),z6 hC,z7]
      rw[z6 hb]
      dsimp only
      by_cases k:(0:Int)<=cW eA (jt cm)
      ·rw[if_neg (λh=>h.2 k),z8 (by rw[decide_eq_true k]; rfl),z7]
      ·rw[if_pos ⟨rfl,k⟩,za (by rw[decide_eq_false k]; rfl),z7]
     ·have hb:(.ite (B3==(0:Int)) (T.bind (strings_Contains eA (jt cm)) λr5=>.ret ((!r5),(A1,B1))) (.ret (false,(A1,B1))):T ((Bool×AM.Expr×AM.Expr))).run=some (false,(A1,B1)):=by
       rw[z8 (by simpa using e2),z7]
      rw[z6 hb]
      dsimp only
      rw[if_neg (λh=>e2 h.1),zg,z7]
    rw[z6 inner]
    dsimp only
    rw[z7]
  have Qz:=X9 (c::r) ha
  rcases hc with rfl | rfl
  ·have hp:=EK r [61] (by omega) (by decide)
   have hq:(.ite (zi ([60]:ze) ([60]:ze)) (T.bind (strings_HasPrefix r ([61]:ze)) λr=>.ret (r,(zE,zE))) (.ret (false,(zE,zE))):T (Bool×AM.Expr×AM.Expr)).run=some (List.isPrefixOf [61] r,(zE,zE)):=by
    rw[za (qx _),z6 hp,z7]
   have ec:yH (60::r)=(if[61].isPrefixOf r=true then some ([],2,r.drop 1)else some ([],1,r)):=by
    show(if(60:UInt8)=61 then _ else if(60:UInt8)=60 then _ else _)=_
    rw[if_neg (by decide),if_pos rfl]
   rw[ec]at Qz
   by_cases k:[61].isPrefixOf r=true
   ·rw[if_pos k]at Qz
    have hr:r.length >= 1:=by
     cases r with
     | nil=>cases k
     | cons x y=>simp
    have hsg:(T.bind (.ite (zi ([60]:ze) ([60]:ze)) (T.bind (strings_HasPrefix r ([61]:ze)) λr=>.ret (r,(zE,zE))) (.ret (false,(zE,zE))):T (Bool×AM.Expr×AM.Expr)) λ(x,v,v1) =>
     .ite x
      (.zL (gH (1:Int) ((r.length:Nat):Int) (List.length r)) <|
       .ret (([60,61]:ze),((vq (1:Int) ((r.length:Nat):Int) r),(v,v1))))
      (.ret (([60]:ze),(r,(v,v1)))):T ((ze×ze×AM.Expr×AM.Expr))).run=some (([60,61]:ze),(r.drop 1,(zE,zE))):=by
     rw[z6 hq]
     dsimp only
     rw[za k,zb (eQ.2 ⟨by omega,by omega,by omega⟩),z7]
     have:=jG r 1 r.length
     rw[List.take_length]at this
     rw[show vq (1:Int) ((r.length:Nat):Int) r=r.drop 1 from this]
    refine(z6 hsg _).trans ?_
    exact fin 2 (r.drop 1) (by rw[Qz]; simp) (by rw[List.length_drop]; omega) (.inr (.inr rfl))
   ·rw[if_neg k]at Qz
    have hsg:(T.bind (.ite (zi ([60]:ze) ([60]:ze)) (T.bind (strings_HasPrefix r ([61]:ze)) λr=>.ret (r,(zE,zE))) (.ret (false,(zE,zE))):T (Bool×AM.Expr×AM.Expr)) λ(x,v,v1) =>
     .ite x
      (.zL (gH (1:Int) ((r.length:Nat):Int) (List.length r)) <|
       .ret (([60,61]:ze),((vq (1:Int) ((r.length:Nat):Int) r),(v,v1))))
      (.ret (([60]:ze),(r,(v,v1)))):T ((ze×ze×AM.Expr×AM.Expr))).run=some (([60]:ze),(r,(zE,zE))):=by
     rw[z6 hq]
     dsimp only
     rw[z8 (by cases hh:List.isPrefixOf [61] r with | false=>rfl | true=>exact absurd hh k),z7]
    refine(z6 hsg _).trans ?_
    exact fin 1 r (by rw[Qz]; simp) (by omega) (.inr (.inl rfl))
  ·have ec:yH (61::r)=some ([],0,r):=by
    show(if(61:UInt8)=61 then _ else _)=_
    rw[if_pos rfl]
   rw[ec]at Qz
   have hsg:(T.bind (.ite (zi ([61]:ze) ([60]:ze)) (T.bind (strings_HasPrefix r ([61]:ze)) λr=>.ret (r,(zE,zE))) (.ret (false,(zE,zE))):T (Bool×AM.Expr×AM.Expr)) λ(x,v,v1) =>
     .ite x
      (.zL (gH (1:Int) ((r.length:Nat):Int) (List.length r)) <|
       .ret (([60,61]:ze),((vq (1:Int) ((r.length:Nat):Int) r),(v,v1))))
      (.ret (([61]:ze),(r,(v,v1)))):T ((ze×ze×AM.Expr×AM.Expr))).run=some (([61]:ze),(r,(zE,zE))):=by
    have hq:(.ite (zi ([61]:ze) ([60]:ze)) (T.bind (strings_HasPrefix r ([61]:ze)) λr=>.ret (r,(zE,zE))) (.ret (false,(zE,zE))):T (Bool×AM.Expr×AM.Expr)).run=some (false,(zE,zE)):=by
     rw[z8 (by rfl),z7]
    rw[z6 hq]
    dsimp only
    rw[zg,z7]
   refine(z6 hsg _).trans ?_
   exact fin 0 r (by rw[Qz]; simp) (by omega) (.inl rfl)
theorem OW(b c:UInt8):(((b.toNat:Nat):Int)==((c.toNat:Nat):Int))=decide (b=c):=by
 rw[Bool.eq_iff_iff,beq_iff_eq,decide_eq_true_eq]
 constructor
 ·intro h; exact UInt8.toNat_inj.1 (by omega)
 ·rintro rfl; rfl
theorem Xh(c:UInt8):∀ (l cur r:ze),(∀ b∈l,b≠c)->xA c cur (l++r)=xA c (cur++l) r
 | [],cur,r,_=>by rw[List.append_nil]; rfl
 | b::l,cur,r,h=>by
  show(if b=c then _ else xA c (cur++[b]) (l++r))=_
  rw[if_neg (h b List.mem_cons_self),Xh c l _ r (λx hx=>h x (List.mem_cons_of_mem _ hx)),List.append_assoc]
  rfl
def Vy(w:List ze)(n:Nat):ze×Bool:=if w.length=n then([],true)
 else if w.length=n+2/\zi (nth w (n:Int) (zk .str)) [119,104,101,110]=true/\zG (nth w ((n+1:Nat):Int) (zk .str))=true then(nth w ((n+1:Nat):Int) (zk .str),true)else([],false)
theorem XD(w:List ze)(n:Nat)(hn:n<=1000):(jK w (n:Int)).run=some (Vy w n):=by
 have w2:zF ((n:Int)+2)=((n+2:Nat):Int):=by rw[zA (by omega) (by omega)]; omega
 have w1:zF ((n:Int)+1)=((n+1:Nat):Int):=by rw[zA (by omega) (by omega)]; omega
 unfold jK Vy
 rw[w2,w1]
 by_cases c:w.length=n
 ·rw[if_pos c,za (by rw[beq_iff_eq]; omega),z7]
 ·rw[if_neg c,z8 (by rw[beq_eq_false_iff_ne]; omega)]
  by_cases c2:w.length=n+2
  ·have hk:(w8 w ((n+2:Nat):Int) (n:Int) [119,104,101,110]).run=some (zi (nth w (n:Int) (zk .str)) [119,104,101,110]):=by
    unfold w8
    rw[zb (λ_=>qf (by omega)),z7]
    rw[show(((w.length:Nat):Int)==((n+2:Nat):Int))=true by rw[beq_iff_eq]; omega,Bool.true_and]
   have inner:(T.bind (w8 w ((n+2:Nat):Int) (n:Int) [119,104,101,110]) λr =>
     .ite r
      (.zL (qt ((n+1:Nat):Int) (List.length w)) <|
       T.bind (xi (nth w ((n+1:Nat):Int) (zk .str))) λr1 =>
       .ret r1)
      (.ret false):T (Bool)).run=some (zi (nth w (n:Int) (zk .str)) [119,104,101,110]&&zG (nth w ((n+1:Nat):Int) (zk .str))):=by
    rw[z6 hk]
    cases zi (nth w (n:Int) (zk .str)) [119,104,101,110]with
    | false=>rw[zg,z7]; rfl
    | true=>rw[zj,zb (qf (by omega)),z6 (xG _),z7]; rfl
   rw[z6 inner]
   cases q:(zi (nth w (n:Int) (zk .str)) [119,104,101,110]&&zG (nth w ((n+1:Nat):Int) (zk .str)))with
   | false=>rw[if_neg (λh=>by rw[h.2.1,h.2.2]at q; cases q),zg,z7]
   | true=>rw[Bool.and_eq_true]at q; rw[if_pos ⟨c2,q.1,q.2⟩,zj,zb (qf (by omega)),z7]
  ·have hk:(w8 w ((n+2:Nat):Int) (n:Int) [119,104,101,110]).run=some false:=by
    have hb:(((w.length:Nat):Int)==((n+2:Nat):Int))=false:=by rw[beq_eq_false_iff_ne]; omega
    unfold w8
    rw[zb (λh=>by rw[hb]at h; cases h),z7,hb,Bool.false_and]
   have inner:(T.bind (w8 w ((n+2:Nat):Int) (n:Int) [119,104,101,110]) λr =>
     .ite r
      (.zL (qt ((n+1:Nat):Int) (List.length w)) <|
       T.bind (xi (nth w ((n+1:Nat):Int) (zk .str))) λr1 =>
       .ret r1)
      (.ret false):T (Bool)).run=some false:=by
    rw[z6 hk,zg,z7]
   rw[z6 inner,if_neg (λh=>c2 h.1),zg,z7]
theorem bind_mono{R R':PR}{f f':Expr->ze->Bool->PR}(h:R≠.no->R'=R)(hf:∀ e r l,f e r l≠.no->f' e r l=f e r l)(hn:R.bind f≠.no):R'.bind f'=R.bind f:=by
 cases R with
 | no=>exact absurd rfl hn
 | er k b r d l=>rw[h (by simp)]; rfl
 | ok e r l=>rw[h (by simp)]; exact hf e r l hn
theorem dm{K K':Bool->ze->PR}(hK:∀ l q,K l q≠.no->K' l q=K l q)(m1 m2:UInt8)(k1 k2:Int):∀ (n n':Nat) (e:Expr) (r:ze) (l:Bool),n<=n'->yB K m1 m2 k1 k2 n e r l≠.no->yB K' m1 m2 k1 k2 n' e r l=yB K m1 m2 k1 k2 n e r l
 | 0,_,_,_,_,_,h=>absurd rfl h
 | n+1,0,_,_,_,h,_=>by omega
 | n+1,n'+1,e,r,l,h,hn=>by
  unfold yB at hn ⊢
  cases q:xT [m1,m2] r with
  | none=>rfl
  | some x =>
   obtain⟨c,q'⟩:=x
   rw[q]at hn
   exact bind_mono (hK l q') (λe2 q2 l2 h2=>dm hK m1 m2 k1 k2 n n' _ q2 l2 (by omega) h2) hn
theorem YR{K K':Bool->ze->PR}(hK:∀ l q,K l q≠.no->K' l q=K l q)(m1 m2:UInt8)(k1 k2:Int)(n n':Nat)(h:n<=n')(l:Bool)(r:ze)(hn:rowP K m1 m2 k1 k2 n l r≠.no):rowP K' m1 m2 k1 k2 n' l r=rowP K m1 m2 k1 k2 n l r :=
 bind_mono (hK l r) (λe q l' h2=>dm hK m1 m2 k1 k2 n n' e q l' h h2) hn
theorem Ng{z:Rat}{F S F' S':Nat->Bool->ze->PR}(hF:∀ d l q,F d l q≠.no->F' d l q=F d l q)(hS:∀ d l q,S d l q≠.no->S' d l q=S d l q)(d:Nat)(l:Bool)(s:ze)(hn:lA z F S d l s≠.no):lA z F' S' d l s=lA z F S d l s:=by
 unfold lA at hn ⊢
 cases e:yl s with
 | nil=>rfl
 | cons c r =>
  rw[e]at hn
  dsimp only at hn ⊢
  by_cases OC:c=45
  ·rw[if_pos OC]at hn ⊢
   rw[if_pos OC]
   by_cases c31:31<=d
   ·rw[if_pos c31,if_pos c31]
   ·rw[if_neg c31]at hn ⊢
    rw[if_neg c31]
    exact bind_mono (hF _ _ _) (λ_ _ _ _=>rfl) hn
  ·rw[if_neg OC]at hn ⊢
   rw[if_neg OC]
   by_cases OD:c=40
   ·rw[if_pos OD]at hn ⊢
    rw[if_pos OD]
    by_cases c31:31<=d
    ·rw[if_pos c31,if_pos c31]
    ·rw[if_neg c31]at hn ⊢
     rw[if_neg c31]
     exact bind_mono (hS _ _ _) (λ_ _ _ _=>rfl) hn
   ·rw[if_neg OD,if_neg OD]
theorem gw(z:Rat):∀ (n n':Nat),n<=n'->(∀ d l r,pF z n d l r≠.no->pF z n' d l r=pF z n d l r)/\(∀ d l r,pP z n d l r≠.no->pP z n' d l r=pP z n d l r)/\(∀ d l r,pS z n d l r≠.no->pS z n' d l r=pS z n d l r)
 | 0,_,_=>⟨λ_ _ _ h=>absurd (by unfold pF; rfl) h,λ_ _ _ h=>absurd (by unfold pP; rfl) h,λ_ _ _ h=>absurd (by unfold pS; rfl) h⟩
 | n+1,0,h=>by omega
 | n+1,n'+1,h=>by
  obtain⟨h1,h2,h3⟩:=gw z n n' (by omega)
  refine⟨λd l r hn => ?_,λd l r hn => ?_,λd l r hn => ?_⟩
  ·unfold pF at hn ⊢; exact Ng h1 h3 d l r hn
  ·unfold pP at hn ⊢; exact YR (h1 d) _ _ _ _ n n' (by omega) l r hn
  ·unfold pS at hn ⊢; exact YR (h2 d) _ _ _ _ n n' (by omega) l r hn
def SF(d:Nat)(l:Bool)(s:ze)(R:PR):Prop:=R≠.no/\∃ n,pF zR n d l s=R
def SP(d:Nat)(l:Bool)(s:ze)(R:PR):Prop:=R≠.no/\∃ n,pP zR n d l s=R
def SS(d:Nat)(l:Bool)(s:ze)(R:PR):Prop:=R≠.no/\∃ n,pS zR n d l s=R
def RP(d:Nat)(e:Expr)(r:ze)(l:Bool)(R:PR):Prop:=R≠.no/\∃ n m,yB (pF zR n d) 42 47 5 6 m e r l=R
def RS(d:Nat)(e:Expr)(r:ze)(l:Bool)(R:PR):Prop:=R≠.no/\∃ n m,yB (pP zR n d) 43 45 3 4 m e r l=R
theorem KD{d:Nat}{l:Bool}{s:ze}{e:Expr}{q:ze}{l':Bool}{R:PR}(h1:SF d l s (.ok e q l'))(h2:RP d e q l' R):SP d l s R:=by
 obtain⟨_,n1,e1⟩:=h1
 obtain⟨hR,n2,m,e2⟩:=h2
 refine⟨hR,max (max n1 n2) m+1,?_⟩
 unfold pP rowP
 rw[(gw zR n1 (max (max n1 n2) m) (by omega)).1 d l s (by rw[e1]; simp),e1]
 show yB _ _ _ _ _ _ e q l'=R
 rw[dm (λl q h=>(gw zR n2 (max (max n1 n2) m) (by omega)).1 d l q h) 42 47 5 6 m (max (max n1 n2) m) e q l' (by omega) (by rw[e2]; exact hR),e2]
theorem Mj{d:Nat}{l:Bool}{s:ze}{e:Expr}{q:ze}{l':Bool}{R:PR}(h1:SP d l s (.ok e q l'))(h2:RS d e q l' R):SS d l s R:=by
 obtain⟨_,n1,e1⟩:=h1
 obtain⟨hR,n2,m,e2⟩:=h2
 refine⟨hR,max (max n1 n2) m+1,?_⟩
 unfold pS rowP
 rw[(gw zR n1 (max (max n1 n2) m) (by omega)).2.1 d l s (by rw[e1]; simp),e1]
 show yB _ _ _ _ _ _ e q l'=R
 rw[dm (λl q h=>(gw zR n2 (max (max n1 n2) m) (by omega)).2.1 d l q h) 43 45 3 4 m (max (max n1 n2) m) e q l' (by omega) (by rw[e2]; exact hR),e2]
theorem pU{d:Nat}{e:Expr}{r:ze}{l:Bool}(h:xT [42,47] r=none):RP d e r l (.ok e (yl r) l):=⟨by simp,0,1,by unfold yB; rw[h]⟩
theorem WT{d:Nat}{e:Expr}{r:ze}{l:Bool}(h:xT [43,45] r=none):RS d e r l (.ok e (yl r) l):=⟨by simp,0,1,by unfold yB; rw[h]⟩
theorem L5{d:Nat}{e:Expr}{r:ze}{l:Bool}{c:UInt8}{q:ze}{e2:Expr}{q2:ze}{l2:Bool}{R:PR}(h:xT [42,47] r=some (c,q))(h1:SF d l q (.ok e2 q2 l2))(h2:RP d (b9 (if c=42 then 5 else 6) [e,e2]) q2 l2 R):RP d e r l R:=by
 obtain⟨_,n1,e1⟩:=h1
 obtain⟨hR,n2,m,e3⟩:=h2
 refine⟨hR,max n1 n2,m+1,?_⟩
 unfold yB
 rw[h]
 dsimp only
 rw[(gw zR n1 (max n1 n2) (by omega)).1 d l q (by rw[e1]; simp),e1]
 show yB _ _ _ _ _ _ _ q2 l2=R
 rw[dm (λl q h=>(gw zR n2 (max n1 n2) (by omega)).1 d l q h) 42 47 5 6 m m _ q2 l2 (by omega) (by rw[e3]; exact hR),e3]
theorem Ib{d:Nat}{e:Expr}{r:ze}{l:Bool}{c:UInt8}{q:ze}{e2:Expr}{q2:ze}{l2:Bool}{R:PR}(h:xT [43,45] r=some (c,q))(h1:SP d l q (.ok e2 q2 l2))(h2:RS d (b9 (if c=43 then 3 else 4) [e,e2]) q2 l2 R):RS d e r l R:=by
 obtain⟨_,n1,e1⟩:=h1
 obtain⟨hR,n2,m,e3⟩:=h2
 refine⟨hR,max n1 n2,m+1,?_⟩
 unfold yB
 rw[h]
 dsimp only
 rw[(gw zR n1 (max n1 n2) (by omega)).2.1 d l q (by rw[e1]; simp),e1]
 show yB _ _ _ _ _ _ _ q2 l2=R
 rw[dm (λl q h=>(gw zR n2 (max n1 n2) (by omega)).2.1 d l q h) 43 45 3 4 m m _ q2 l2 (by omega) (by rw[e3]; exact hR),e3]
theorem SI(m r:ze):xT m (yl r)=xT m r:=by unfold xT; rw[BV]
theorem TB(K:Bool->ze->PR)(m1 m2:UInt8)(k1 k2:Int)(n:Nat)(e:Expr)(r:ze)(l:Bool):yB K m1 m2 k1 k2 n e (yl r) l=yB K m1 m2 k1 k2 n e r l:=by
 cases n with
 | zero=>rfl
 | succ n=>unfold yB; rw[SI,BV]
theorem Bq{d:Nat}{e:Expr}{r:ze}{l:Bool}{R:PR}(h:RS d e r l R):RS d e (yl r) l R:=by
 obtain⟨hR,n,m,e2⟩:=h
 exact⟨hR,n,m,by rw[TB,e2]⟩
theorem zdb{d:Nat}{l:Bool}{s s':ze}{R:PR}(h:SF d l s R)(e:yl s'=yl s):SF d l s' R:=by
 obtain⟨hR,n,e1⟩:=h
 cases n with
 | zero=>exact absurd (by rw[<- e1]; unfold pF; rfl) hR
 | succ n =>
  refine⟨hR,n+1,?_⟩
  rw[<- e1]
  unfold pF lA
  rw[e]
theorem z9W{d:Nat}{l:Bool}{s s':ze}{R:PR}(h:SP d l s R)(e:yl s'=yl s):SP d l s' R:=by
 obtain⟨hR,n,e1⟩:=h
 cases n with
 | zero=>exact absurd (by rw[<- e1]; unfold pP; rfl) hR
 | succ n =>
  cases n with
  | zero=>exact absurd (by rw[<- e1]; unfold pP rowP pF; rfl) hR
  | succ n =>
   refine⟨hR,n+2,?_⟩
   rw[<- e1]
   have:pF zR (n+1) d l s'=pF zR (n+1) d l s:=by unfold pF lA; rw[e]
   unfold pP rowP
   rw[this]
theorem z9X{d:Nat}{l:Bool}{s s':ze}{R:PR}(h:SS d l s R)(e:yl s'=yl s):SS d l s' R:=by
 obtain⟨hR,n,e1⟩:=h
 cases n with
 | zero=>exact absurd (by rw[<- e1]; unfold pS; rfl) hR
 | succ n =>
  refine⟨hR,n+1,?_⟩
  rw[<- e1]
  have:pP zR n d l s'=pP zR n d l s:=by
   cases n with
   | zero=>unfold pP; rfl
   | succ n =>
    have:pF zR n d l s'=pF zR n d l s:=by
     cases n with
     | zero=>unfold pF; rfl
     | succ n=>unfold pF lA; rw[e]
    unfold pP rowP
    rw[this]
  unfold pS rowP
  rw[this]
theorem z5G{d:Nat}{l:Bool}{s r:ze}{e:Expr}{q:ze}{l':Bool}(hs:yl s=45::r)(hd:d<31)(h:SF (d+1) l r (.ok e q l')):SF d l s (.ok (b9 7 [e]) q l'):=by
 obtain⟨_,n,e1⟩:=h
 refine⟨by simp,n+1,?_⟩
 unfold pF lA
 rw[hs]
 dsimp only
 rw[if_pos rfl,if_neg (by omega),e1]
 rfl
theorem z7h{d:Nat}{l:Bool}{s r:ze}{e:Expr}{q q':ze}{l':Bool}(hs:yl s=40::r)(hd:d<31)(h:SS (d+1) l r (.ok e q l'))(hq:yl q=41::q'):SF d l s (.ok e q' l'):=by
 obtain⟨_,n,e1⟩:=h
 refine⟨by simp,n+1,?_⟩
 have ht:xT [41] q=some (41,q'):=by unfold xT; rw[hq]; rfl
 unfold pF lA
 rw[hs]
 dsimp only
 rw[if_neg (by decide),if_pos rfl,if_neg (by omega),e1]
 show(match xT [41] q with | some (_,q')=>PR.ok e q' l' | none=>.er 2 (yl q) (yl q) (d+1) l')=_
 rw[ht]
theorem z6u{d:Nat}{l:Bool}{s r:ze}{c:UInt8}(hs:yl s=c::r)(hc:uK c=true):SF d l s (tG zR d (c::r) l):=by
 refine⟨BO _ _ _ _,1,?_⟩
 have OC:c≠45:=by rintro rfl; revert hc; decide
 have OD:c≠40:=by rintro rfl; revert hc; decide
 unfold pF lA
 rw[hs]
 dsimp only
 rw[if_neg OC,if_neg OD,if_pos hc]
theorem zaJ{c:UInt8}(h:XJ c=true):uK c=false:=by
 unfold XJ at h
 rw[Bool.and_eq_true,decide_eq_true_eq,decide_eq_true_eq]at h
 cases q:uK c with
 | false=>rfl
 | true=>have:=fO.1 q; omega
theorem TS{d:Nat}{l:Bool}{s r:ze}{c:UInt8}(hs:yl s=c::r)(hc:XJ c=true):SF d l s (El (c::r) l):=by
 refine⟨by unfold El; simp,1,?_⟩
 have OC:c≠45:=by rintro rfl; revert hc; decide
 have OD:c≠40:=by rintro rfl; revert hc; decide
 unfold pF lA
 rw[hs]
 dsimp only
 rw[if_neg OC,if_neg OD,if_neg (by rw[zaJ hc]; simp),if_pos hc]
theorem PC{s:ze}{R:PR}(h:SS 0 false s R):mI zR s=R:=by
 obtain⟨hR,n,e⟩:=h
 have h2:=Ll j9 s
 unfold mI at h2 ⊢
 have a:=(gw zR (3*s.length+3) (max n (3*s.length+3)) (by omega)).2.2 0 false s h2
 have b:=(gw zR n (max n (3*s.length+3)) (by omega)).2.2 0 false s (by rw[e]; exact hR)
 rw[<- a,b,e]
def nK:ze->Bool
 | []=>true
 | c::_ => !wX c && !(c==46)
theorem RG{c:UInt8}(h:uK c=true):wX c=true:=by
 have:=fO.1 h
 unfold wX
 rw[decide_eq_true (by omega:(48:Int)<=(c.toNat:Int)),decide_eq_true (by omega:(c.toNat:Int)<=57)]
 simp
theorem Dg{q:ze}(h:nK q=true):∀ c r,q=c::r->wX c=false/\c≠46:=by
 rintro c r rfl
 have h:(!wX c && !(c==46))=true:=h
 rw[Bool.and_eq_true]at h
 exact⟨by simpa using h.1,by simpa using h.2⟩
def eL(n:Rat):ze:=(qG (norm n).1 (nv (norm n).2.1) (nv (norm n).2.2.1) 0 61).1
theorem QU{n:Rat}(h:ug n=true):fc n=true/\n.1=false/\uM n=false/\(qG (norm n).1 (nv (norm n).2.1) (nv (norm n).2.2.1) 0 61).2=true:=by
 unfold ug at h
 simp only[Bool.and_eq_true,Bool.not_eq_true']at h
 exact⟨h.1,h.2.1,h.2.2.1,h.2.2.2⟩
theorem ry{n:Rat}(hn:uR n)(h:fc n=true):norm n=n:=(Un n hn.1 hn.2.1).1 h
theorem mZ{n:Rat}(hn:uR n)(h:ug n=true):nN (eL n)=norm n/\(eL n).length<=400/\∃ w,qS w=true/\w≠[]/\(eL n=w\/∃ p,qS p=true/\p≠[]/\eL n=w++46::p):=by
 obtain⟨h1,h2,h3,h4⟩:=QU h
 have hnn:=ry hn h1
 have kK:=yd (k:=100) (by omega) hn
 have hd:=oP n.1 (nv n.2.1) (nv n.2.2.1)
 have hd:nv (norm n).2.2.1≠0:=hd
 have hx:qG (norm n).1 (nv (norm n).2.1) (nv (norm n).2.2.1) 0 61=(eL n,true):=Prod.ext rfl h4
 have hl:(zu (nv (norm n).2.1)).length<=16:=by
  have:=zy kK.1
  unfold uM at h3
  simp only[Bool.or_eq_false_iff,decide_eq_false_iff_not]at h3
  omega
 have hp:=B8 (norm n) (Yp n) hd hl (eL n) hx
 have hlen:=KJ n hn
 have hlen:(eL n).length<=6000:=hlen
 rw[bR (eL n) (by omega)]at hp
 have hp1:(eL n).length<=400:=by
  by_cases c:400<(eL n).length
  ·rw[if_pos c]at hp
   injection hp with hp
   injection hp with _ hp
   exact absurd hp (by decide)
  ·omega
 refine⟨?_,hp1,?_⟩
 ·rw[if_neg (by omega)]at hp
  unfold nN
  cases w:tA (eL n)with
  | none =>
   rw[w]at hp
   have h2:(2:Int)=0:=congrArg (λx:Option (Rat×Int)=>match x with | some y=>y.2 | none=>5) hp
   exact absurd h2 (by decide)
  | some x =>
   rw[w]at hp
   injection hp with hp
   exact congrArg Prod.fst hp
 ·obtain⟨j,_,_,_,e⟩:=rm _ _ _ hd 61 0 _ hx
  rw[hnn,h2]at e
  have e:eL n=KW (pr (nv n.2.1*10 ^ j / nv n.2.2.1)) j:=e
  by_cases hj:j=0
  ·subst hj
   refine⟨eL n,?_,?_,.inl rfl⟩
   ·rw[e]; unfold KW; rw[if_pos rfl]; exact(lZ _).1
   ·rw[e]; unfold KW; rw[if_pos rfl]; exact IH _
  ·obtain⟨w,p,e2,h5,h6,h7,h8,_,_⟩:=QY (pr (nv n.2.1*10 ^ j / nv n.2.2.1)) j hj (lZ _).1
   exact⟨w,h5,h6,.inr ⟨p,h7,by rintro rfl; simp at h8; omega,by rw[e,e2]⟩⟩
theorem Om{n:Rat}(hn:uR n)(h:ug n=true):∃ c r,eL n=c::r/\uK c=true:=by
 obtain⟨_,_,w,h1,h2,h3⟩:=mZ hn h
 cases w with
 | nil=>exact absurd rfl h2
 | cons c w =>
  have hc:uK c=true:=by rw[vT,Bool.and_eq_true]at h1; exact h1.1
  rcases h3 with e | ⟨p,_,_,e⟩
  ·exact⟨c,w,e,hc⟩
  ·exact⟨c,w++46::p,e,hc⟩
theorem NK{n:Rat}(hn:uR n)(h:ug n=true)(d:Nat)(l:Bool){q:ze}(hq:nK q=true):tG zR d (eL n++q) l=.ok (.mk 1 (norm n) [] []) q l:=by
 obtain⟨ht,hlen,w,h1,h2,h3⟩:=mZ hn h
 have hs:=Dg hq
 have hs':∀ c r,q=c::r->uK c=false:=by
  intro c r e
  cases hc:uK c with
  | false=>rfl
  | true=>have:=(hs c r e).1; rw[RG hc]at this; cases this
 have fin:∀ r,Xf zR (eL n) r l=.ok (.mk 1 (norm n) [] []) r l:=λr=>by
  unfold Xf
  rw[if_neg (by omega),ht]
 rcases h3 with e | ⟨p,h4,h5,e⟩
 ·obtain⟨t1,t2⟩:=jU (u:=eL n) (by rw[e]; exact h1) q hs'
  unfold tG
  rw[t1,t2]
  cases q with
  | nil=>exact fin _
  | cons c r =>
   dsimp only
   rw[if_neg (hs c r rfl).2]
   exact fin _
 ·have e2:eL n++q=w++46::(p++q):=by rw[e,List.append_assoc]; rfl
  obtain⟨t1,t2⟩:=jU h1 (46::(p++q)) (λc r z=>by cases z; decide)
  obtain⟨t3,t4⟩:=jU h4 q hs'
  unfold tG
  rw[e2,t1,t2]
  dsimp only
  rw[if_pos rfl,t3,t4,if_neg h5,<- e]
  exact fin _
theorem Yf:∀ (n:Nat) (s q:ze),s.length<=n->s.all wX=true->nK q=true->gI wX n (s++q)=(s,q)
 | 0,[],q,_,_,_=>rfl
 | 0,_::_,_,h,_,_=>by simp at h
 | n+1,[],[],_,_,_=>rfl
 | n+1,[],c::q,_,_,hq=>by
  have:=(Dg hq c q rfl).1
  show(if wX c=true then _ else([],c::q))=_
  rw[if_neg (by rw[this]; simp)]
 | n+1,c::s,q,h,ha,hq=>by
  rw[List.all_cons,Bool.and_eq_true]at ha
  have ih:=Yf n s q (by simpa using h) ha.2 hq
  show(if wX c=true then(c::(gI wX n (s++q)).1,(gI wX n (s++q)).2)else _)=_
  rw[if_pos ha.1,ih]
theorem kl{s:ze}(h:zG s=true):s.length<=24/\s.all wX=true/\∃ c r,s=c::r/\XJ c=true:=by
 have h2:=nf h
 refine⟨h2.1,h2.2,?_⟩
 cases s with
 | nil=>cases h
 | cons c r =>
  unfold zG at h
  dsimp only at h
  rw[Bool.and_eq_true,Bool.and_eq_true]at h
  exact⟨c,r,rfl,h.2.1⟩
theorem YL{s:ze}(h:zG s=true)(l:Bool){q:ze}(hq:nK q=true):El (s++q) l=.ok (.mk 2 zR s []) q l:=by
 obtain⟨h1,h2,_⟩:=kl h
 unfold El
 rw[Yf 24 s q h1 h2 hq]
mutual
/-- The same expression,as it is read. -/
def canE:Expr->Expr
 | .mk k n s l=>if k=1 then .mk 1 (norm n) [] []else if k=2 then .mk 2 zR s []else b9 k (canL l)
def canL:List Expr->List Expr
 | []=>[]
 | e::r=>canE e::canL r
end
theorem p0{c:UInt8}{r:ze}(h:c≠32):yl (c::r)=c::r:=by unfold yl; rw[if_neg h]
theorem Je(r:ze):yl (32::r)=yl r:=by conv=>lhs; unfold yl; rw[if_pos rfl]
theorem z8i{c:UInt8}(h:uK c=true):c≠32:=by rintro rfl; revert h; decide
theorem SV{c:UInt8}(h:XJ c=true):c≠32:=by rintro rfl; revert h; decide
theorem WV{d:Nat}{k:Int}{n:Rat}{s:ze}{l:List Expr}(ho:xM d (.mk k n s l)=true) :
  (k=1/\l=[]/\ug n=true/\s=[])\/(k=2/\l=[]/\zG s=true/\xC n=true)\/(k=7/\(∃ a,l=[a]/\xM (d+1) a=true)/\xC n=true/\s=[])\/((k=3\/k=4\/k=5\/k=6)/\(∃ a b,l=[a,b]/\xM (d+1) a=true/\xM (d+1) b=true)/\xC n=true/\s=[]):=by
 obtain⟨hk,hl⟩:=oR ho
 have ho:(decide (d<32)&&(uX (.mk k n s l)&&uC (d+1) l))=true:=ho
 simp only[Bool.and_eq_true]at ho
 have V4:=ho.2.1
 unfold uX at V4
 rw[Bool.and_eq_true]at V4
 have hb:=V4.2
 clear V4
 rw[show Expr.kind (.mk k n s l)=k from rfl,show Expr.num (.mk k n s l)=n from rfl,show Expr.name (.mk k n s l)=s from rfl]at hb
 have R3:(l.length:Int)=0->l=[]:=λh=>List.eq_nil_of_length_eq_zero (by omega)
 by_cases h1:k=1
 ·rw[if_pos h1,Bool.and_eq_true,xP,decide_eq_true_eq]at hb
  refine .inl ⟨h1,R3 ?_,hb.1,hb.2⟩
  rw[hk]; unfold fp; rw[if_pos (.inl h1)]
 ·rw[if_neg h1]at hb
  by_cases h2:k=2
  ·rw[if_pos h2,Bool.and_eq_true]at hb
   refine .inr (.inl ⟨h2,R3 ?_,hb.2,hb.1⟩)
   rw[hk]; unfold fp; rw[if_pos (.inr h2)]
  ·rw[if_neg h2,Bool.and_eq_true,xP,decide_eq_true_eq]at hb
   rcases He hk h1 h2 with⟨h7,a,rfl⟩ | ⟨Tp,a,b,rfl⟩
   ·have hl:(xM (d+1) a&&uC (d+1) [])=true:=hl
    rw[Bool.and_eq_true]at hl
    exact .inr (.inr (.inl ⟨h7,⟨a,rfl,hl.1⟩,hb.1,hb.2⟩))
   ·have hl:(xM (d+1) a&&(xM (d+1) b&&uC (d+1) []))=true:=hl
    rw[Bool.and_eq_true,Bool.and_eq_true]at hl
    exact .inr (.inr (.inr ⟨Tp,⟨a,b,rfl,hl.1,hl.2.1⟩,hb.1,hb.2⟩))
theorem HJ{d:Nat}{e:Expr}(h:xM d e=true):d<32:=by
 cases e with | mk k n s l =>
 have h:(decide (d<32)&&(uX (.mk k n s l)&&uC (d+1) l))=true:=h
 rw[Bool.and_eq_true,decide_eq_true_eq]at h
 exact h.1
structure JM(e:Expr)(p:Nat):Prop where
 sum:∀ q l R,nK q=true->xT [42,47] q=none->RS p (canE e) q l R->SS p l (prE e++q) R
 pro:2<=zr e.kind->∀ q l R,nK q=true->RP p (canE e) q l R->SP p l (prE e++q) R
 fac:3<=zr e.kind->∀ q l,nK q=true->SF p l (prE e++q) (.ok (canE e) q l)
theorem JM.DZ{e:Expr}{p:Nat}(h:∀ q l,nK q=true->SF p l (prE e++q) (.ok (canE e) q l)):JM e p where
 sum q l R hq ht hR:=Mj (KD (h q l hq) (pU ht)) (Bq hR)
 pro _ q l R hq hR:=KD (h q l hq) hR
 fac _ q l hq:=h q l hq
theorem JM.Sg{e:Expr}{p:Nat}(hb:zr e.kind<=2)(h:∀ q l R,nK q=true->RP p (canE e) q l R->SP p l (prE e++q) R):JM e p where
 sum q l R hq ht hR:=Mj (h q l _ hq (pU ht)) (Bq hR)
 pro _ q l R hq hR:=h q l R hq hR
 fac h3:=by omega
theorem JM.par{e:Expr}{p:Nat}(h:JM e (p+1))(hp:p<31)(q:ze)(l:Bool):SF p l ([40]++prE e++[41]++q) (.ok (canE e) q l):=by
 have hs:yl ([40]++prE e++[41]++q)=40::(prE e++(41::q)):=by
  rw[show[40]++prE e++[41]++q=40::(prE e++(41::q)) by simp,p0 (by decide)]
 have h41:yl (41::q)=41::q:=p0 (by decide)
 have t1:xT [42,47] (41::q)=none:=by unfold xT; rw[h41]; rfl
 have t2:xT [43,45] (41::q)=none:=by unfold xT; rw[h41]; rfl
 exact z7h hs hp (h.sum (41::q) l _ rfl t1 (WT t2)) (by rw[h41,h41])
theorem Lt{a:Expr}{p:Nat}(h0:3<=zr a.kind->JM a p)(h1:zr a.kind<3->JM a (p+1)/\p<31)(q:ze)(l:Bool)(hq:nK q=true):SF p l (um (decide (zr a.kind<3)) (prE a)++q) (.ok (canE a) q l):=by
 by_cases c:zr a.kind<3
 ·rw[decide_eq_true c]
  exact(h1 c).1.par (h1 c).2 q l
 ·rw[decide_eq_false c]
  exact(h0 (by omega)).fac (by omega) q l hq
theorem Mh{a:Expr}{p:Nat}(h0:2<=zr a.kind->JM a p)(h1:zr a.kind<2->JM a (p+1)/\p<31)(q:ze)(l:Bool)(R:PR)(hq:nK q=true)(hR:RP p (canE a) q l R):SP p l (um (decide (zr a.kind<2)) (prE a)++q) R:=by
 by_cases c:zr a.kind<2
 ·rw[decide_eq_true c]
  exact KD ((h1 c).1.par (h1 c).2 q l) hR
 ·rw[decide_eq_false c]
  exact(h0 (by omega)).pro (by omega) q l R hq hR
theorem SU(k:Int):1<=zr k:=by unfold zr; (repeat' split)<;>omega
theorem Uj{d:Nat}{e:Expr}(ho:xM d e=true)(hb:zr e.kind<3):d+1<32:=by
 cases e with | mk k n s l =>
 have hb:zr k<3:=hb
 rcases WV ho with⟨rfl,_⟩ | ⟨rfl,_⟩ | ⟨rfl,_⟩ | ⟨_,⟨a,b,_,K4,_⟩,_⟩
 ·exact absurd hb (by decide)
 ·exact absurd hb (by decide)
 ·exact absurd hb (by decide)
 ·exact HJ K4
def JU(d:Nat)(e:Expr):Nat:=if zr e.kind<3 then d+1 else d
theorem z7v:∀ (m:Nat) (e:Expr) (d p:Nat),xw e<=m->xM d e=true->allOk e->p<=JU d e->JM e p:=by
 intro m
 induction m with
 | zero=>intro e d p hm; have:=Zl e; omega
 | succ m ih =>
  intro e d p hm ho ha hp
  cases e with | mk k n s l =>
  have hn:=ha.1
  rcases WV ho with⟨rfl,rfl,h1,rfl⟩ | ⟨rfl,rfl,h1,h2⟩ | ⟨rfl,⟨a,rfl,K4⟩,h1,rfl⟩ | ⟨hk,⟨a,b,rfl,K4,hob⟩,h1,rfl⟩
  ·refine JM.DZ λq l hq => ?_
   show SF p l (eL n++q) (.ok (.mk 1 (norm n) [] []) q l)
   obtain⟨c,r,e,hc⟩:=Om hn h1
   have hs:yl (eL n++q)=c::(r++q):=by rw[e,List.cons_append,p0 (z8i hc)]
   have:=z6u (d:=p) (l:=l) hs hc
   rw[show c::(r++q)=eL n++q by rw[e]; rfl,NK hn h1 p l hq]at this
   exact this
  ·refine JM.DZ λq l hq => ?_
   show SF p l (s++q) (.ok (.mk 2 zR s []) q l)
   obtain⟨_,_,c,r,e,hc⟩:=kl h1
   have hs:yl (s++q)=c::(r++q):=by rw[e,List.cons_append,p0 (SV hc)]
   have:=TS (d:=p) (l:=l) hs hc
   rw[show c::(r++q)=s++q by rw[e]; rfl,YL h1 l hq]at this
   exact this
  ·have hd:=HJ K4
   have hp:p<=d:=hp
   have e0:xw (.mk 7 n [] [a])=1+(xw a+0):=rfl
   refine JM.DZ λq l hq => ?_
   show SF p l ([45]++um (decide (zr a.kind<3)) (prE a)++q) (.ok (b9 7 [canE a]) q l)
   rw[List.append_assoc]
   refine z5G (p0 (by decide)) (by omega) ?_
   refine Lt (λh=>ih a (d+1) (p+1) (by omega) K4 ha.2.1 ?_) (λh=>⟨ih a (d+1) (p+1+1) (by omega) K4 ha.2.1 ?_,?_⟩) q l hq
   ·unfold JU; split<;>omega
   ·unfold JU; rw[if_pos h]; omega
   ·have:=Uj K4 h; omega
  ·have e0:xw (.mk k n [] [a,b])=1+(xw a+(xw b+0)):=rfl
   have hd:=HJ K4
   have hp:p<=d+1:=by
    have h:p<=JU d (.mk k n [] [a,b]):=hp
    unfold JU at h
    split at h<;>omega
   have ka0:JM a p:=ih a (d+1) p (by omega) K4 ha.2.1 (by unfold JU; split<;>omega)
   have kb0:JM b p:=ih b (d+1) p (by omega) hob ha.2.2.1 (by unfold JU; split<;>omega)
   have ka1:zr a.kind<3->JM a (p+1)/\p<31:=λh=>⟨ih a (d+1) (p+1) (by omega) K4 ha.2.1 (by unfold JU; rw[if_pos h]; omega),by have:=Uj K4 h; omega⟩
   have kb1:zr b.kind<3->JM b (p+1)/\p<31:=λh=>⟨ih b (d+1) (p+1) (by omega) hob ha.2.2.1 (by unfold JU; rw[if_pos h]; omega),by have:=Uj hob h; omega⟩
   -- z8e
   have z8e:∀ (c:UInt8) (k:Int),(c=43/\k=3)\/(c=45/\k=4)->∀ q l R,nK q=true->xT [42,47] q=none->RS p (b9 k [canE a,canE b]) q l R->SS p l (prE a++([32,c,32]++(um (decide (zr b.kind<2)) (prE b)++q))) R:=by
    intro c k hck q l R hq ht hR
    have z7N:c≠32:=by rcases hck with⟨rfl,_⟩ | ⟨rfl,_⟩<;>decide
    have hcm:[43,45].contains c=true:=by rcases hck with⟨rfl,_⟩ | ⟨rfl,_⟩<;>decide
    have hcp:[42,47].contains c=false:=by rcases hck with⟨rfl,_⟩ | ⟨rfl,_⟩<;>decide
    have M7:(if c=43 then(3:Int)else 4)=k:=by rcases hck with⟨rfl,rfl⟩ | ⟨rfl,rfl⟩<;>decide
    generalize hB:um (decide (zr b.kind<2)) (prE b)++q=B
    have MW:yl ([32,c,32]++B)=c::32::B:=by
     show yl (32::c::32::B)=_
     rw[Je,p0 z7N]
    have t1:xT [42,47] ([32,c,32]++B)=none:=by unfold xT; rw[MW]; dsimp only; rw[if_neg (by rw[hcp]; simp)]
    have t2:xT [43,45] ([32,c,32]++B)=some (c,32::B):=by unfold xT; rw[MW]; dsimp only; rw[if_pos hcm]
    refine ka0.sum _ l R rfl t1 (Ib t2 (z9W (Mh (λ_=>kb0) (λh=>kb1 (by omega)) q l _ hq (pU ht)) (by rw[Je,hB])) ?_)
    rw[M7]
    exact Bq hR
   have zbC:∀ (c:UInt8) (k:Int),(c=42/\k=5)\/(c=47/\k=6)->∀ q l R,nK q=true->RP p (b9 k [canE a,canE b]) q l R->SP p l (um (decide (zr a.kind<2)) (prE a)++([32,c,32]++(um (decide (zr b.kind<3)) (prE b)++q))) R:=by
    intro c k hck q l R hq hR
    have z7N:c≠32:=by rcases hck with⟨rfl,_⟩ | ⟨rfl,_⟩<;>decide
    have hcp:[42,47].contains c=true:=by rcases hck with⟨rfl,_⟩ | ⟨rfl,_⟩<;>decide
    have M7:(if c=42 then(5:Int)else 6)=k:=by rcases hck with⟨rfl,rfl⟩ | ⟨rfl,rfl⟩<;>decide
    generalize hB:um (decide (zr b.kind<3)) (prE b)++q=B
    have MW:yl ([32,c,32]++B)=c::32::B:=by
     show yl (32::c::32::B)=_
     rw[Je,p0 z7N]
    have t2:xT [42,47] ([32,c,32]++B)=some (c,32::B):=by unfold xT; rw[MW]; dsimp only; rw[if_pos hcp]
    refine Mh (λ_=>ka0) (λh=>ka1 (by omega)) _ l R rfl (L5 t2 (zdb (Lt (λ_=>kb0) kb1 q l hq) (by rw[Je,hB])) ?_)
    rw[M7]
    exact hR
   have s1:∀ q:ze,decide (zr a.kind<1)=false:=λ_=>decide_eq_false (by have:=SU a.kind; omega)
   rcases hk with rfl | rfl | rfl | rfl
   ·refine⟨λq l R hq ht hR => ?_,λh=>absurd h (show ¬ 2<=zr 3 by decide),λh=>absurd h (show ¬ 3<=zr 3 by decide)⟩
    have:=z8e 43 3 (.inl ⟨rfl,rfl⟩) q l R hq ht hR
    show SS p l (um (decide (zr a.kind<1)) (prE a)++[32,43,32]++um (decide (zr b.kind<2)) (prE b)++q) R
    rw[s1 [],List.append_assoc,List.append_assoc]
    exact this
   ·refine⟨λq l R hq ht hR => ?_,λh=>absurd h (show ¬ 2<=zr 4 by decide),λh=>absurd h (show ¬ 3<=zr 4 by decide)⟩
    have:=z8e 45 4 (.inr ⟨rfl,rfl⟩) q l R hq ht hR
    show SS p l (um (decide (zr a.kind<1)) (prE a)++[32,45,32]++um (decide (zr b.kind<2)) (prE b)++q) R
    rw[s1 [],List.append_assoc,List.append_assoc]
    exact this
   ·refine JM.Sg (show zr 5<=2 by decide) λq l R hq hR => ?_
    have:=zbC 42 5 (.inl ⟨rfl,rfl⟩) q l R hq hR
    show SP p l (um (decide (zr a.kind<2)) (prE a)++[32,42,32]++um (decide (zr b.kind<3)) (prE b)++q) R
    rw[List.append_assoc,List.append_assoc]
    exact this
   ·refine JM.Sg (show zr 6<=2 by decide) λq l R hq hR => ?_
    have:=zbC 47 6 (.inr ⟨rfl,rfl⟩) q l R hq hR
    show SP p l (um (decide (zr a.kind<2)) (prE a)++[32,47,32]++um (decide (zr b.kind<3)) (prE b)++q) R
    rw[List.append_assoc,List.append_assoc]
    exact this
theorem rdE(e:Expr)(p:Nat)(h:xM p e=true)(ha:allOk e):JM e p:=z7v (xw e) e p p (Nat.le_refl _) h ha (by unfold JU; split<;>omega)
theorem ig{n:Rat}(h:xC n=true):norm n=norm zR:=by
 unfold xC at h
 simp only[Bool.and_eq_true,List.isEmpty_iff]at h
 have:nv n.2.1=0:=by rw[h.2.1]; rfl
 unfold norm
 have z:∀ b d,va b 0 d=(false,[],[1],()):=λb d=>by unfold va; rw[if_pos (.inl rfl)]
 rw[this,z,show nv zR.2.1=0 from rfl,z]
structure z9t(d:Nat)(e:Expr):Prop where
 ok:xM d (canE e)=true
 same:sameE e (canE e)=true
 pr:prE (canE e)=prE e
 kind:(canE e).kind=e.kind
 nd:xw (canE e)=xw e
 cr:kJ (canE e)
 sz:szE (canE e)<=szE e
 len:(prE e).length<=410*xw e
theorem VY{d:Nat}{k:Int}{n:Rat}{s:ze}{l:List Expr}(h1:d<32)(h2:uX (.mk k n s l)=true)(h3:uC (d+1) l=true):xM d (.mk k n s l)=true:=by
 show(decide (d<32)&&(uX (.mk k n s l)&&uC (d+1) l))=true
 rw[decide_eq_true h1,h2,h3]; rfl
theorem Hr(k:Int)(n:Rat)(s:ze)(l:List Expr):prE (.mk k n s l)=if k=1 then(qG (norm n).1 (nv (norm n).2.1) (nv (norm n).2.2.1) 0 61).1 else if k=2 then s else fI k (prL l):=rfl
theorem H6(n:Rat)(s:ze)(l:List Expr):prE (.mk 2 n s l)=s:=by
 rw[Hr,if_neg (by decide),if_pos rfl]
theorem GO(n:Rat)(s:ze)(a:Expr):prE (.mk 7 n s [a])=[45]++um (decide (zr a.kind<3)) (prE a):=by
 rw[Hr,if_neg (by decide),if_neg (by decide)]; rfl
theorem z2V:∀ (m:Nat) (e:Expr) (d:Nat),xw e<=m->xM d e=true->allOk e->z9t d e:=by
 intro m
 induction m with
 | zero=>intro e d hm; have:=Zl e; omega
 | succ m ih =>
  intro e d hm ho ha
  have hd:=HJ ho
  cases e with | mk k n s l =>
  have hn:=ha.1
  rcases WV ho with⟨rfl,rfl,h1,rfl⟩ | ⟨rfl,rfl,h1,h2⟩ | ⟨rfl,⟨a,rfl,K4⟩,h1,rfl⟩ | ⟨hk,⟨a,b,rfl,K4,hob⟩,h1,rfl⟩
  ·have hnn:=ry hn (QU h1).1
   have e1:canE (.mk 1 n [] [])=.mk 1 n [] []:=by
    show Expr.mk 1 (norm n) [] []=_
    rw[hnn]
   have hl:=(mZ hn h1).2.1
   refine⟨by rw[e1]; exact ho,by rw[e1]; exact yo _,by rw[e1],by rw[e1],by rw[e1],by rw[e1]; exact dw 1 n [] hn (by simp),by rw[e1]; exact Nat.le_refl _,?_⟩
   have e2:xw (.mk 1 n [] [])=1:=rfl
   have e3:prE (.mk 1 n [] [])=eL n:=rfl
   rw[e2,e3]
   omega
  ·have e1:canE (.mk 2 n s [])=.mk 2 zR s []:=rfl
   have hl:=(kl h1).1
   refine⟨?_,?_,by rw[e1,H6,H6],rfl,rfl,dw 2 zR s j9 hl,?_,?_⟩
   ·rw[e1]
    refine VY hd ?_ rfl
    show((((0:Nat):Int)==fp 2)&&(xC zR&&zG s))=true
    rw[h1]; rfl
   ·rw[e1]
    show(((2:Int)==2)&&(zi s s&&(c7 n zR&&true)))=true
    rw[mv,r8.2 (ig h2)]; rfl
   ·have e2:szE (.mk 2 n s [])=3+s.length+8*n.2.1.length+8*n.2.2.1.length+0:=rfl
    have e3:szE (canE (.mk 2 n s []))=3+s.length+0+0+0:=rfl
    rw[e2,e3]
    omega
   ·have e2:xw (.mk 2 n s [])=1:=rfl
    have e3:=H6 n s []
    rw[e2,e3]
    omega
  ·have e0:xw (.mk 7 n [] [a])=1+(xw a+0):=rfl
   have ka:=ih a (d+1) (by omega) K4 ha.2.1
   refine⟨?_,?_,?_,rfl,?_,Jl 7 ka.cr,?_,?_⟩
   ·refine VY hd rfl ?_
    show(xM (d+1) (canE a)&&true)=true
    rw[ka.ok]; rfl
   ·show(((7:Int)==7)&&(zi [] []&&(c7 n zR&&(sameE a (canE a)&&true))))=true
    rw[mv,r8.2 (ig h1),ka.same]; rfl
   ·rw[show canE (.mk 7 n [] [a])=.mk 7 zR [] [canE a]from rfl,GO,GO,ka.pr,ka.kind]
   ·show 1+(xw (canE a)+0)=1+(xw a+0)
    rw[ka.nd]
   ·have:=ka.sz
    have e2:szE (.mk 7 n [] [a])=3+0+8*n.2.1.length+8*n.2.2.1.length+(szE a+0):=rfl
    have e3:szE (canE (.mk 7 n [] [a]))=3+0+0+0+(szE (canE a)+0):=rfl
    rw[e2,e3]
    omega
   ·have:=ka.len
    have hp:=uU (decide (zr a.kind<3)) (prE a)
    have e3:=GO n [] a
    rw[e0,e3,List.length_append,List.length_singleton]
    omega
  ·have e0:xw (.mk k n [] [a,b])=1+(xw a+(xw b+0)):=rfl
   have ka:=ih a (d+1) (by omega) K4 ha.2.1
   have kb:=ih b (d+1) (by omega) hob ha.2.2.1
   have k1:k≠1:=by omega
   have k2:k≠2:=by omega
   have e1:canE (.mk k n [] [a,b])=b9 k [canE a,canE b]:=by
    show(if k=1 then _ else if k=2 then _ else b9 k (canL [a,b]))=_
    rw[if_neg k1,if_neg k2]; rfl
   have p1:∀ (n:Rat) (a b:Expr),prE (.mk k n [] [a,b])=um (decide (zr a.kind<zr k)) (prE a)++ZI k++um (decide (zr b.kind<zr k+1)) (prE b):=by
    intro n a b
    rw[Hr,if_neg k1,if_neg k2]; rfl
   refine⟨?_,?_,?_,by rw[e1]; rfl,?_,by rw[e1]; exact Vl k ka.cr kb.cr,?_,?_⟩
   ·rw[e1]
    refine VY hd ?_ ?_
    ·rcases hk with rfl | rfl | rfl | rfl<;>rfl
    ·show(xM (d+1) (canE a)&&(xM (d+1) (canE b)&&true))=true
     rw[ka.ok,kb.ok]; rfl
   ·rw[e1]
    show((k==k)&&(zi [] []&&(c7 n zR&&(sameE a (canE a)&&(sameE b (canE b)&&true)))))=true
    rw[mv,r8.2 (ig h1),ka.same,kb.same]; simp
   ·rw[e1]
    show prE (.mk k zR [] [canE a,canE b])=_
    rw[p1,p1,ka.pr,kb.pr,ka.kind,kb.kind]
   ·rw[e1,nd2,ka.nd,kb.nd,e0]; omega
   ·rw[e1]
    have:=ka.sz
    have:=kb.sz
    have e2:szE (.mk k n [] [a,b])=3+0+8*n.2.1.length+8*n.2.2.1.length+(szE a+(szE b+0)):=rfl
    have e3:szE (b9 k [canE a,canE b])=3+0+0+0+(szE (canE a)+(szE (canE b)+0)):=rfl
    rw[e2,e3]
    omega
   ·rw[p1,e0,List.length_append,List.length_append]
    have:=ka.len
    have:=kb.len
    have:=uU (decide (zr a.kind<zr k)) (prE a)
    have:=uU (decide (zr b.kind<zr k+1)) (prE b)
    have:=X1 k
    omega
theorem Iz(e:Expr)(d:Nat)(ho:xM d e=true)(ha:allOk e):z9t d e:=z2V (xw e) e d (Nat.le_refl _) ho ha
theorem KI{e:Expr}(h:KQ e=true):xM 0 e=true/\xw e<=256:=by
 unfold KQ at h
 rw[Bool.and_eq_true,decide_eq_true_eq]at h
 exact h
theorem z3j{e:Expr}(h:KQ e=true)(ha:allOk e):KQ (canE e)=true:=by
 obtain⟨h1,h2⟩:=KI h
 have:=Iz e 0 h1 ha
 unfold KQ
 rw[this.ok,this.nd,decide_eq_true h2]; rfl
theorem NX{s:ze}{e:Expr}{a:Int}(h:qu s=(e,(a,(0:Int)))):KQ e=true:=by
 unfold qu Bx at h
 split at h
 ·rename_i c
  injection h with _ h
  injection h with _ h
  exact absurd h c
 ·split at h
  ·injection h with _ h
   injection h with _ h
   exact absurd h (by decide)
  ·rename_i c
   injection h with h _
   rw[<- h]
   cases q:KQ (oF s (mI zR s)).1 with
   | true=>rfl
   | false=>exact absurd (.inr q) c
theorem z68{n:Rat}(hn:uR n)(h:ug n=true):8*n.2.1.length+8*n.2.2.1.length<=256:=by
 obtain⟨h1,h2,h3,h4⟩:=QU h
 have e:=ry hn h1
 unfold uM at h3
 rw[e,Bool.or_eq_false_iff,decide_eq_false_iff_not,decide_eq_false_iff_not]at h3
 omega
theorem H0{n:Rat}(hn:uR n)(h:xC n=true):8*n.2.1.length+8*n.2.2.1.length<=256:=by
 have h0:=h
 unfold xC at h
 simp only[Bool.and_eq_true,Bool.or_eq_true,List.isEmpty_iff]at h
 obtain⟨_,h2,h3⟩:=h
 rcases h3 with h3 | h3
 ·rw[h2,h3]; simp
 ·have e:=ry hn h3
  have e2:=ig h0
  rw[e]at e2
  rw[e2]
  decide +kernel
theorem zcq:∀ (m:Nat) (e:Expr) (d:Nat),xw e<=m->xM d e=true->allOk e->szE e<=283*xw e:=by
 intro m
 induction m with
 | zero=>intro e d hm; have:=Zl e; omega
 | succ m ih =>
  intro e d hm ho ha
  cases e with | mk k n s l =>
  have hn:=ha.1
  rcases WV ho with⟨rfl,rfl,h1,rfl⟩ | ⟨rfl,rfl,h1,h2⟩ | ⟨rfl,⟨a,rfl,K4⟩,h1,rfl⟩ | ⟨hk,⟨a,b,rfl,K4,hob⟩,h1,rfl⟩
  ·have:=z68 hn h1
   simp only[szE,szEs,xw,wR,List.length_nil]; omega
  ·have:=H0 hn h2
   have:=(nf h1).1
   simp only[szE,szEs,xw,wR]; omega
  ·have e1:xw (.mk 7 n [] [a])=1+(xw a+0):=rfl
   have:=H0 hn h1
   have:=ih a _ (by omega) K4 ha.2.1
   simp only[szE,szEs,List.length_nil]; omega
  ·have e1:xw (.mk k n [] [a,b])=1+(xw a+(xw b+0)):=rfl
   have:=H0 hn h1
   have:=ih a _ (by omega) K4 ha.2.1
   have:=ih b _ (by omega) hob ha.2.2.1
   simp only[szE,szEs,List.length_nil]; omega
theorem SJ{e:Expr}(h:KQ e=true)(ha:allOk e):wm e:=by
 obtain⟨h1,h2⟩:=KI h
 have:=zcq _ e 0 (Nat.le_refl _) h1 ha
 exact⟨by omega,h2,ha⟩
theorem U7(s:ze):wm (qu s).1:=by
 have hg:=(Du s).1.1
 by_cases h:(qu s).2.2=0
 ·refine SJ (NX (s:=s) (a:=(qu s).2.1) ?_) hg
  rw[<- h]
 ·have e:(qu s).1=zE:=by
   unfold qu Bx at h ⊢
   split
   ·rfl
   ·split
    ·rfl
    ·rename_i c1 c2
     rw[if_neg c1,if_neg c2]at h
     exact absurd rfl h
  rw[e]
  exact rS (by decide) WL.1
def qQ(s:ze):Expr×Expr×Int×Int:=match yH s with
 | none=>(zE,(zE,((0:Int),(2:Int))))
 | some (l,c,r)=>if(qu l).2.2≠0 then(zE,(zE,((0:Int),(qu l).2.2)))else((qu l).1,((qu r).1,(c,(qu r).2.2)))
abbrev gJ:=List Switch×List Param×List xm×List Field×List qI×List Check
def xD:gJ:=([],[],[],[],[],[])
def wd(l:List ze)(k:Nat):ze:=nth l (k:Int) (zk .str)
def YB(l:List ze):Int×gJ:=if l.length=3/\zG (wd l 1)=true/\(zi (wd l 2) [111,110]=true\/zi (wd l 2) [111,102,102]=true)
 then(0,[(wd l 1,(zi (wd l 2) [111,110],()))],[],[],[],[],[])else(2,xD)
def tb(s:ze):Option Rat:=if 400<s.length then none else match tA s with | some (n,d)=>some (va (List.isPrefixOf [45] s) n d) | none=>none
def WH(l:List ze):Int×gJ:=if l.length=3/\zG (wd l 1)=true then(match tb (wd l 2)with | some r=>(0,[],[(wd l 1,(r,()))],[],[],[],[]) | none=>(2,xD))else(2,xD)
def V6(l:List ze):Int×gJ:=if 2<=l.length/\zG (wd l 1)=true/\(Vy l 2).2=true then(0,[],[],[(wd l 1,((Vy l 2).1,()))],[],[],[])else(2,xD)
def eJ(w:List ze):Bool:=match w with | x::_=>zi x [109,117,115,116] | []=>false
def iB(w:List ze):Option Int:=match w with
 | []=>some 0
 | [a,[c]]=>if zi a [115,99,97,108,101]=true/\48<=c.toNat/\c.toNat<=57 then some ((c.toNat:Int)-48)else none
 | _=>none
def yb(l:List ze):List ze:=if eJ (l.drop 2)=true then l.drop 3 else l.drop 2
def Uz(np:Nat)(l:List ze):Int×gJ:=if 2<=l.length/\zG (wd l 1)=true/\np≠0
 then(match iB (yb l)with | some k=>(0,[],[],[],[(wd l 1,((np:Int)-1,(eJ (l.drop 2),(k,()))))],[],[]) | none=>(2,xD))else(2,xD)
def HP(s:ze):Int:=PL.tQ (λt=>zi s t) 0 [[114,101,113,117,105,114,101,100],[115,116,114,111,110,103],[109,101,100,105,117,109],[119,101,97,107]]
def DC(np:Nat)(l:List ze)(rest:ze):Int×gJ:=if l.length=2/\zG (wd l 1)=true/\np≠0
 then((qQ rest).2.2.2,[],[],[],[],[],[(wd l 1,((np:Int)-1,((qQ rest).2.2.1,((qQ rest).1,((qQ rest).2.1,())))))])else(2,xD)
def K2(l:List ze)(rest:ze):Int×gJ:=if 3<=l.length/\0<=HP (wd l 1)/\zG (wd l 2)=true/\(Vy l 3).2=true
 then(if(qQ rest).2.2.2=0/\(qQ rest).2.2.1≠0 then(2,xD)else((qQ rest).2.2.2,[],[],[],[],[(wd l 2,(HP (wd l 1),((Vy l 3).1,((qQ rest).1,((qQ rest).2.1,())))))],[]))else(2,xD)
theorem z3f{n:Nat}(h:0<n):qt (0:Int) n:=⟨Int.le_refl _,by omega⟩
theorem fg{n:Nat}(h:1<n):qt (1:Int) n:=⟨by decide,by omega⟩
theorem Dn{n:Nat}(h:2<n):qt (2:Int) n:=⟨by decide,by omega⟩
theorem Hv(l:List ze)(xs:List Switch)(hZ:List Param)(vM:List xm)(cD:List Field)(cy:List qI)(cE:List Check)(hx:xs.length<=1000000) :
  (uI l () xs hZ vM cD cy cE).run=some (decide ((YB l).1=0),((),(xs++(YB l).2.1,(hZ,(vM,(cD,(cy,cE))))))):=by
 unfold uI YB
 by_cases c1:l.length=3
 ·refine(z6 (a:=(!(zG (wd l 1)&&(zi (wd l 2) [111,110]||zi (wd l 2) [111,102,102])),((),(xs,(hZ,(vM,(cD,(cy,cE)))))))) ?_ _).trans ?_
  ·rw[z8 (by rw[c1]; rfl),zb (fg (by omega)),z6 (xG _)]
   show(T.ite (!zG (wd l 1)) _ _).run=_
   cases zG (wd l 1)with
   | false=>rw[za (by rfl)]; simp only[zq,T.zh,zo,z7]; rfl
   | true =>
    rw[z8 (by rfl),zb (Dn (by omega))]
    show(T.ite (!zi (wd l 2) [111,110]) _ _).run=_
    cases zi (wd l 2) [111,110]with
    | true=>rw[z8 (by rfl)]; simp only[zq,T.zh,zo,z7]; rfl
    | false=>rw[za (by rfl),zb (Dn (by omega))]; simp only[zq,T.zh,zo,z7]; rfl
  ·dsimp only
   by_cases q:zG (wd l 1)=true/\(zi (wd l 2) [111,110]=true\/zi (wd l 2) [111,102,102]=true)
   ·rw[if_pos ⟨c1,q⟩,z8 (by rw[q.1]; rcases q.2 with h | h<;>simp[h]),zb (fg (by omega)),zb (Dn (by omega)),mN _ rfl rfl rfl (by omega)]
    simp only[List.length_append,List.length_singleton,zq,T.zh,zo,z7]
    rfl
   ·rw[if_neg (λh=>q h.2),za]
    ·simp only[zq,T.zh,zo,z7]
     show _=some (false,((),(xs++[],_)))
     rw[List.append_nil]
    ·cases h1:zG (wd l 1)<;>cases h2:zi (wd l 2) [111,110]<;>cases h3:zi (wd l 2) [111,102,102]<;>simp[h1,h2,h3]at q<;>rfl
 ·refine(z6 (a:=(true,((),(xs,(hZ,(vM,(cD,(cy,cE)))))))) ?_ _).trans ?_
  ·rw[za (by rw[bne_iff_ne]; omega)]
   simp only[zq,T.zh,zo,z7]
  ·dsimp only
   rw[if_neg (λh=>c1 h.1),zj]
   simp only[zq,T.zh,zo,z7]
   show _=some (false,((),(xs++[],_)))
   rw[List.append_nil]
theorem Zy(s:ze)(hs:s.length<=1000000000):∃ r e,(wq s).run=some (r,e)/\(match tb s with | some q=>r=q/\e=0 | none=>e≠0):=by
 have h:=bR s hs
 unfold tb
 by_cases c:400<s.length
 ·rw[if_pos c]at h ⊢
  exact⟨_,_,h,by decide⟩
 ·rw[if_neg c]at h ⊢
  cases q:tA s with
  | none=>rw[q]at h; exact⟨_,_,h,show(2:Int)≠0 by decide⟩
  | some p=>rw[q]at h; exact⟨_,_,h,rfl,rfl⟩
theorem CF(l:List ze)(xs:List Switch)(hZ:List Param)(vM:List xm)(cD:List Field)(cy:List qI)(cE:List Check)(hx:hZ.length<=1000000)(hl:∀ s∈l,s.length<=1000000) :
  ∃ Q,(vZ l () xs hZ vM cD cy cE).run=some (decide ((WH l).1=0),((),(xs,(hZ++Q,(vM,(cD,(cy,cE)))))))/\((WH l).1=0->Q=(WH l).2.2.1):=by
 by_cases c1:l.length=3/\zG (wd l 1)=true
 ·obtain⟨r,e,h1,h2⟩:=Zy (wd l 2) (by have:=hl _ (bN (l:=l) (i:=2) (d:=zk .str) (by omega) (by omega)); exact Nat.le_trans this (by omega))
  have h1:(wq (nth l 2 (zk .str))).run=some (r,e):=h1
  refine⟨[(wd l 1,(r,()))],?_,?_⟩
  ·unfold vZ
   refine(z6 (a:=(false,((),(xs,(hZ,(vM,(cD,(cy,cE)))))))) ?_ _).trans ?_
   ·rw[z8 (by rw[c1.1]; rfl),zb (fg (by omega)),z6 (xG _)]
    simp only[zq,T.zh,zo,z7]
    show some (!zG (wd l 1),_)=_
    rw[c1.2]; rfl
   ·dsimp only
    rw[zg,zb (Dn (by omega)),z6 h1]
    dsimp only
    rw[zb (fg (by omega)),mN _ rfl rfl rfl (by omega)]
    simp only[List.length_append,List.length_singleton,zq,T.zh,zo,z7]
    have:(e==(0:Int))=decide ((WH l).1=0):=by
     unfold WH
     rw[if_pos c1]
     cases hd:tb (wd l 2)with
     | none=>rw[hd]at h2; rw[decide_eq_false (show ¬ (2:Int)=0 by decide)]; simpa using h2
     | some q=>rw[hd]at h2; rw[h2.2]; rfl
    rw[this]
    rfl
  ·intro h0
   unfold WH at h0 ⊢
   rw[if_pos c1]at h0 ⊢
   cases hd:tb (wd l 2)with
   | none=>rw[hd]at h0; exact absurd h0 (show ¬ (2:Int)=0 by decide)
   | some q=>rw[hd]at h2; rw[h2.1]
 ·have e2:WH l=(2,xD):=by unfold WH; rw[if_neg c1]
  refine⟨[],?_,λh=>by rw[e2]at h; exact absurd h (by decide)⟩
  unfold vZ
  rw[e2,List.append_nil]
  refine(z6 (a:=(true,((),(xs,(hZ,(vM,(cD,(cy,cE)))))))) ?_ _).trans ?_
  ·by_cases k:l.length=3
   ·have hn:zG (wd l 1)=false:=by
     cases h:zG (wd l 1)with
     | false=>rfl
     | true=>exact absurd ⟨k,h⟩ c1
    rw[z8 (by rw[k]; rfl),zb (fg (by omega)),z6 (xG _)]
    simp only[zq,T.zh,zo,z7]
    show some (!zG (wd l 1),_)=_
    rw[hn]; rfl
   ·rw[za (by rw[bne_iff_ne]; omega)]
    simp only[zq,T.zh,zo,z7]
  ·dsimp only
   rw[zj]
   simp only[zq,T.zh,zo,z7]
   rfl
theorem HQ(l:List ze)(xs:List Switch)(hZ:List Param)(vM:List xm)(cD:List Field)(cy:List qI)(cE:List Check)(hx:vM.length<=1000000) :
  ∃ Q,(vG l () xs hZ vM cD cy cE).run=some (decide ((V6 l).1=0),((),(xs,(hZ,(vM++Q,(cD,(cy,cE)))))))/\((V6 l).1=0->Q=(V6 l).2.2.2.1):=by
 by_cases c1:2<=l.length/\zG (wd l 1)=true
 ·have hg:(jK l (2:Int)).run=some ((Vy l 2).1,(Vy l 2).2):=XD l 2 (by decide)
  refine⟨[(wd l 1,((Vy l 2).1,()))],?_,?_⟩
  ·unfold vG
   refine(z6 (a:=(false,((),(xs,(hZ,(vM,(cD,(cy,cE)))))))) ?_ _).trans ?_
   ·rw[z8 (decide_eq_false (by omega)),zb (fg (by omega)),z6 (xG _)]
    simp only[zq,T.zh,zo,z7]
    show some (!zG (wd l 1),_)=_
    rw[c1.2]; rfl
   ·dsimp only
    rw[zg,z6 hg]
    dsimp only
    rw[zb (fg (by omega)),mN _ rfl rfl rfl (by omega)]
    simp only[List.length_append,List.length_singleton,zq,T.zh,zo,z7]
    have:(Vy l 2).2=decide ((V6 l).1=0):=by
     unfold V6
     cases(Vy l 2).2 with
     | false=>rw[if_neg (λh=>by have:=h.2.2; cases this),decide_eq_false (by decide)]
     | true=>rw[if_pos ⟨c1.1,c1.2,rfl⟩]; rfl
    rw[this]
    rfl
  ·intro h0
   unfold V6 at h0 ⊢
   split at h0
   ·rename_i h; rw[if_pos h]
   ·exact absurd h0 (by decide)
 ·have e2:V6 l=(2,xD):=by unfold V6; rw[if_neg (λh=>c1 ⟨h.1,h.2.1⟩)]
  refine⟨[],?_,λh=>by rw[e2]at h; exact absurd h (by decide)⟩
  unfold vG
  rw[e2,List.append_nil]
  refine(z6 (a:=(true,((),(xs,(hZ,(vM,(cD,(cy,cE)))))))) ?_ _).trans ?_
  ·by_cases k:2<=l.length
   ·have hn:zG (wd l 1)=false:=by
     cases h:zG (wd l 1)with
     | false=>rfl
     | true=>exact absurd ⟨k,h⟩ c1
    rw[z8 (decide_eq_false (by omega)),zb (fg (by omega)),z6 (xG _)]
    simp only[zq,T.zh,zo,z7]
    show some (!zG (wd l 1),_)=_
    rw[hn]; rfl
   ·rw[za (decide_eq_true (by omega))]
    simp only[zq,T.zh,zo,z7]
  ·dsimp only
   rw[zj]
   simp only[zq,T.zh,zo,z7]
   rfl
theorem Tn(c k:UInt8):strLt [c] [k]=decide (c.toNat<k.toNat):=by
 show Op.bytesLess [c] [k]=_
 unfold Op.bytesLess
 by_cases h:c.toNat<k.toNat
 ·rw[decide_eq_true h]; simp[Op.bytesLess,UInt8.lt_iff_toNat_lt,h]
 ·rw[decide_eq_false h]; simp[Op.bytesLess,UInt8.lt_iff_toNat_lt,h]
theorem YO{e:Ty}(l:List (den e))(k:Nat):vv (e:=e) (k:Int) ((l.length:Nat):Int) l=l.drop k:=by unfold vv; simp only[Int.toNat_natCast,List.take_length]
def OJ(w:List ze):Option Int:=match w with
 | [a,[c]]=>if zi a [115,99,97,108,101]=true/\48<=c.toNat/\c.toNat<=57 then some ((c.toNat:Int)-48)else none
 | _=>none
theorem LY(a:ze)(c:UInt8):OJ [a,[c]]=if zi a [115,99,97,108,101]=true/\48<=c.toNat/\c.toNat<=57 then some ((c.toNat:Int)-48)else none:=rfl
theorem VE:∀ (x:ze) (r:List ze),iB (x::r)=OJ (x::r)
 | _,[]=>rfl
 | _,[[]]=>rfl
 | _,[[_]]=>rfl
 | _,[_::_::_]=>rfl
 | _,[]::_::_=>rfl
 | _,[_]::_::_=>rfl
 | _,(_::_::_)::_::_=>rfl
theorem z2G(l:List ze)(n k:Nat)(s:ze)(h:k<n):(w8 l (n:Int) (k:Int) s).run=some (decide (l.length=n)&&zi (wd l k) s):=by
 unfold w8
 rw[zb (λh1=>qf (by rw[beq_iff_eq]at h1; omega)),z7]
 have:(((l.length:Nat):Int)==(n:Int))=decide (l.length=n):=by rw[Bool.eq_iff_iff,beq_iff_eq,decide_eq_true_eq]; omega
 rw[this]; rfl
theorem Ka(l:List ze)(xs:List Switch)(hZ:List Param)(vM:List xm)(cD:List Field)(cy:List qI)(cE:List Check)(hx:cD.length<=1000000)(Ff:vM.length<=1000000) :
  ∃ Q,(vY l () xs hZ vM cD cy cE).run=some (decide ((Uz vM.length l).1=0),((),(xs,(hZ,(vM,(cD++Q,(cy,cE)))))))/\((Uz vM.length l).1=0->Q=(Uz vM.length l).2.2.2.2.1):=by
 by_cases c1:2<=l.length/\zG (wd l 1)=true/\vM.length≠0
 ·have hw:zF (((vM.length:Nat):Int)-1)=(vM.length:Int)-1:=zA (by omega) (by omega)
  have d2:vv (e:=.str) (2:Int) ((l.length:Nat):Int) l=l.drop 2:=YO (e:=.str) l 2
  have d3:vv (e:=.str) (1:Int) (((l.drop 2).length:Nat):Int) (l.drop 2)=l.drop 3:=by
   rw[show l.drop 3=(l.drop 2).drop 1 by rw[List.drop_drop]]
   exact YO (e:=.str) (l.drop 2) 1
  refine⟨[(wd l 1,((vM.length:Int)-1,(eJ (l.drop 2),((OJ (yb l)).getD 0,()))))],?_,?_⟩
  ·unfold vY
   refine(z6 (a:=(false,((),(xs,(hZ,(vM,(cD,(cy,cE)))))))) ?_ _).trans ?_
   ·rw[z8 (decide_eq_false (by omega)),zb (fg (by omega)),z6 (xG _)]
    show(T.ite (!zG (wd l 1)) _ _).run=_
    rw[c1.2.1,z8 (by rfl)]
    simp only[zq,T.zh,zo,z7]
    rw[beq_eq_false_iff_ne.2 (by omega)]
   ·dsimp only
    rw[zg,zb (fg (by omega)),zb (eQ.2 ⟨by omega,by omega,by omega⟩),d2,hw]
    refine(z6 (a:=(yb l,((),(xs,(hZ,(vM,(cD,(cy,(cE,(wd l 1,((vM.length:Int)-1,(eJ (l.drop 2),((0:Int),())))))))))))) ) ?_ _).trans ?_
    ·have hm:(decide ((0:Int)<(((l.drop 2).length:Nat):Int))&&zi (nth (l.drop 2) (0:Int) (zk .str)) ([109,117,115,116]:ze))=eJ (l.drop 2):=by
      unfold eJ
      cases l.drop 2 with
      | nil=>rfl
      | cons x r=>rw[decide_eq_true (by rw[List.length_cons]; omega)]; rfl
     rw[zb (λh=>z3f (by have:=of_decide_eq_true h; omega)),hm]
     unfold yb
     cases q:eJ (l.drop 2)with
     | true =>
      have hp:0<(l.drop 2).length:=by
       cases h:l.drop 2 with
       | nil=>rw[h]at q; cases q
       | cons=>simp
      rw[zj,zb (eQ.2 ⟨by omega,by omega,by omega⟩),d3]
      simp only[zq,T.zh,zo,z7]
      rfl
     | false =>
      rw[zg]
      simp only[zq,T.zh,zo,z7]
      rfl
    ·dsimp only
     refine(z6 (a:=((match OJ (yb l)with | some _=>[] | none=>yb l),((),(xs,(hZ,(vM,(cD,(cy,(cE,(wd l 1,((vM.length:Int)-1,(eJ (l.drop 2),((OJ (yb l)).getD 0,())))))))))))) ) ?_ _).trans ?_
     ·refine(z6 (a:=((OJ (yb l)).isSome,((),(xs,(hZ,(vM,(cD,(cy,(cE,(wd l 1,((vM.length:Int)-1,(eJ (l.drop 2),((0:Int),())))))))))))) ) ?_ _).trans ?_
      ·have hk:(w8 (yb l) (2:Int) (0:Int) ([115,99,97,108,101]:ze)).run=some (decide ((yb l).length=2)&&zi (wd (yb l) 0) [115,99,97,108,101]):=z2G (yb l) 2 0 _ (by decide)
       rw[z6 hk]
       generalize yb l=w
       by_cases k:w.length=2/\zi (wd w 0) [115,99,97,108,101]=true
       ·rw[za (by rw[decide_eq_true k.1,k.2]; rfl),zb (fg (by omega))]
        match w,k with
        | [a,[]],k=>rw[z8 (by rfl)]; simp only[zq,T.zh,zo,z7]; rfl
        | [a,x::y::r],k =>
         rw[z8 (by rw[beq_eq_false_iff_ne]; show((List.length (x::y::r):Nat):Int)≠1; rw[List.length_cons,List.length_cons]; omega)]
         simp only[zq,T.zh,zo,z7]; rfl
        | [a,[c]],k =>
         have ha:zi a [115,99,97,108,101]=true:=k.2
         have e1:strLt (nth [a,[c]] (1:Int) (zk .str)) [48]=decide (c.toNat<48):=Tn c 48
         have e2:strLt (nth [a,[c]] (1:Int) (zk .str)) [57]=decide (c.toNat<57):=Tn c 57
         have e3:zi (nth [a,[c]] (1:Int) (zk .str)) [57]=decide (c.toNat=57):=by
          show zi [c] [57]=_
          rw[xP]
          by_cases h:c=57
          ·subst h; rfl
          ·rw[decide_eq_false (λq=>h (by injection q)),decide_eq_false (show ¬ c.toNat=57 from λq=>h (UInt8.toNat_inj.1 q))]
         rw[za (by rfl),zb (fg (by simp)),e1]
         by_cases g1:c.toNat<48
         ·rw[decide_eq_true g1,z8 (by rfl)]
          simp only[zq,T.zh,zo,z7]
          rw[LY,if_neg (λh=>by have:=h.2.1; omega)]; rfl
         ·rw[decide_eq_false g1,za (by rfl),zb (fg (by simp)),e2,e3]
          simp only[zq,T.zh,zo,z7]
          rw[LY]
          by_cases g2:c.toNat<=57
          ·rw[if_pos ⟨ha,by omega,g2⟩]
           have:(decide (c.toNat<57)||decide (c.toNat=57))=true:=by
            rw[Bool.or_eq_true,decide_eq_true_eq,decide_eq_true_eq]; omega
           rw[this]; rfl
          ·rw[if_neg (λh=>g2 h.2.2),decide_eq_false (by omega),decide_eq_false (by omega)]; rfl
       ·have hs:OJ w=none:=by
         unfold OJ
         split
         ·rename_i a c
          rw[if_neg (λh=>k ⟨rfl,h.1⟩)]
         ·rfl
        rw[z8 (by
         by_cases g:w.length=2
         ·rw[decide_eq_true g,Bool.true_and]
          cases h:zi (wd w 0) [115,99,97,108,101]with
          | false=>rfl
          | true=>exact absurd ⟨g,h⟩ k
         ·rw[decide_eq_false g]; rfl),hs]
        simp only[zq,T.zh,zo,z7]
        rfl
      ·dsimp only
       generalize yb l=w
       cases q:OJ w with
       | none =>
        show(T.ite false _ _).run=_
        rw[zg]
        simp only[zq,T.zh,zo,z7]
        rfl
       | some v =>
        show(T.ite true _ _).run=_
        unfold OJ at q
        split at q
        ·rename_i a c
         split at q
         ·rename_i h
          injection q with q
          have e4:zF (HR (qo (nth [a,[c]] (1:Int) (zk .str)) (0:Int)-48))=v:=by
           show zF (HR ((c.toNat:Int)-48))=v
           have:=h.2.1
           have:=h.2.2
           rw[GJ (by omega) (by omega),zA (by omega) (by omega)]
           exact q
          rw[zj,zb (fg (by simp)),zb (z3f (by show 0<List.length [c]; simp)),e4]
          simp only[zq,T.zh,zo,z7]
          rfl
         ·cases q
        ·cases q
     ·dsimp only
      rw[mN _ rfl rfl rfl (by omega)]
      simp only[List.length_append,List.length_singleton,zq,T.zh,zo,z7]
      congr 2
      unfold Uz
      rw[if_pos c1]
      generalize yb l=w
      cases q:OJ w with
      | some v =>
       cases w with
       | nil=>cases q
       | cons x r=>rw[VE,q]; rfl
      | none =>
       cases w with
       | nil=>rfl
       | cons x r =>
        rw[VE,q]
        show(((List.length (x::r):Nat):Int)==0)=decide ((2:Int)=0)
        rw[List.length_cons,beq_eq_false_iff_ne.2 (by omega)]; rfl
  ·intro h0
   unfold Uz at h0 ⊢
   rw[if_pos c1]at h0 ⊢
   generalize yb l=w at h0 ⊢
   cases q:iB w with
   | none=>rw[q]at h0; exact absurd h0 (show ¬ (2:Int)=0 by decide)
   | some v =>
    have:(OJ w).getD 0=v:=by
     cases w with
     | nil=>injection q
     | cons x r=>rw[VE]at q; rw[q]; rfl
    rw[this]
 ·have e2:Uz vM.length l=(2,xD):=by unfold Uz; rw[if_neg c1]
  refine⟨[],?_,λh=>by rw[e2]at h; exact absurd h (by decide)⟩
  unfold vY
  rw[e2,List.append_nil]
  refine(z6 (a:=(true,((),(xs,(hZ,(vM,(cD,(cy,cE)))))))) ?_ _).trans ?_
  ·by_cases k:2<=l.length
   ·rw[z8 (decide_eq_false (by omega)),zb (fg (by omega)),z6 (xG _)]
    show(T.ite (!zG (wd l 1)) _ _).run=_
    cases h:zG (wd l 1)with
    | false =>
     rw[za (by rfl)]
     simp only[zq,T.zh,zo,z7]
    | true =>
     rw[z8 (by rfl)]
     simp only[zq,T.zh,zo,z7]
     have:vM.length=0:=Classical.byContradiction λg=>c1 ⟨k,h,g⟩
     rw[this]; rfl
   ·rw[za (decide_eq_true (by omega))]
    simp only[zq,T.zh,zo,z7]
  ·dsimp only
   rw[zj]
   simp only[zq,T.zh,zo,z7]
   rfl
theorem GX:∀ {s:ze} {l:ze} {c:Int} {r:ze},yH s=some (l,c,r)->c=0\/c=1\/c=2
 | [],_,_,_,h=>by cases h
 | b::s,l,c,r,h=>by
  unfold yH at h
  split at h
  ·injection h with h; injection h with _ h; injection h with h _; exact .inl h.symm
  ·split at h
   ·split at h
    ·injection h with h; injection h with _ h; injection h with h _; exact .inr (.inr h.symm)
    ·injection h with h; injection h with _ h; injection h with h _; exact .inr (.inl h.symm)
   ·split at h
    ·rename_i q
     injection h with h; injection h with _ h; injection h with h _
     rw[<- h]
     exact GX q
    ·cases h
theorem NU(s:ze):(kM [60,61] s).2.2.2=(qQ s).2.2.2/\((qQ s).2.2.2=0->(kM [60,61] s).1=(qQ s).1/\(kM [60,61] s).2.1=(qQ s).2.1/\PL.tQ (λt=>zi (kM [60,61] s).2.2.1 t) 0 [[61],[60],[60,61]]=(qQ s).2.2.1):=by
 unfold kM qQ
 cases h:yH s with
 | none=>exact⟨rfl,λh=>absurd h (by decide)⟩
 | some p =>
  obtain⟨l,c,r⟩:=p
  dsimp only
  have hc:=GX h
  have hk:(0:Int)<=cW [60,61] (jt c):=by rcases hc with rfl | rfl | rfl<;>decide
  by_cases e:(qu l).2.2≠0
  ·rw[if_pos e,if_pos e]
   exact⟨rfl,λh=>absurd h e⟩
  ·rw[if_neg e,if_neg e]
   refine⟨if_neg (λh=>h.2 hk),λ_=>⟨rfl,rfl,?_⟩⟩
   show PL.tQ (λt=>zi (jt c) t) 0 [[61],[60],[60,61]]=c
   rcases hc with rfl | rfl | rfl<;>decide
theorem Py(s:ze):(kM [61] s).2.2.2=(if(qQ s).2.2.2=0/\(qQ s).2.2.1≠0 then 2 else(qQ s).2.2.2)/\((kM [61] s).2.2.2=0->(kM [61] s).1=(qQ s).1/\(kM [61] s).2.1=(qQ s).2.1):=by
 cases h:yH s with
 | none =>
  have h1:kM [61] s=(zE,(zE,(([]:ze),(2:Int)))):=by unfold kM; rw[h]
  have h2:qQ s=(zE,(zE,((0:Int),(2:Int)))):=by unfold qQ; rw[h]
  rw[h1,h2]
  exact⟨rfl,λh=>absurd h (by decide)⟩
 | some p =>
  obtain⟨l,c,r⟩:=p
  have hc:=GX h
  have hk:(0:Int)<=cW [61] (jt c)↔c=0:=by rcases hc with rfl | rfl | rfl<;>decide
  by_cases e:(qu l).2.2≠0
  ·have h1:kM [61] s=((qu l).1,(zE,(([]:ze),(qu l).2.2))):=by unfold kM; rw[h]; exact if_pos e
   have h2:qQ s=(zE,(zE,((0:Int),(qu l).2.2))):=by unfold qQ; rw[h]; exact if_pos e
   rw[h1,h2]
   exact⟨(if_neg (λh=>e h.1)).symm,λh=>absurd h e⟩
  ·have h1:kM [61] s=((qu l).1,((qu r).1,(jt c,(if(qu r).2.2=0/\¬ (0<=cW [61] (jt c))then 2 else(qu r).2.2)))):=by unfold kM; rw[h]; exact if_neg e
   have h2:qQ s=((qu l).1,((qu r).1,(c,(qu r).2.2))):=by unfold qQ; rw[h]; exact if_neg e
   rw[h1,h2]
   refine⟨?_,λ_=>⟨rfl,rfl⟩⟩
   simp only[ne_eq,hk]
theorem Kt(l:List ze)(rest:ze)(xs:List Switch)(hZ:List Param)(vM:List xm)(cD:List Field)(cy:List qI)(cE:List Check)(hx:cE.length<=1000000)(Ff:vM.length<=1000000)(hr:rest.length<=80000) :
  ∃ Q,(wZ l rest () xs hZ vM cD cy cE).run=some ((DC vM.length l rest).1,((),(xs,(hZ,(vM,(cD,(cy,cE++Q)))))))/\((DC vM.length l rest).1=0->Q=(DC vM.length l rest).2.2.2.2.2.2):=by
 by_cases c1:l.length=2/\zG (wd l 1)=true/\vM.length≠0
 ·have hw:zF (((vM.length:Nat):Int)-1)=(vM.length:Int)-1:=zA (by omega) (by omega)
  obtain⟨q1,q2⟩:=NU rest
  have e0:DC vM.length l rest=((qQ rest).2.2.2,[],[],[],[],[],[(wd l 1,((vM.length:Int)-1,((qQ rest).2.2.1,((qQ rest).1,((qQ rest).2.1,())))))]):=by unfold DC; rw[if_pos c1]
  have hE:(vw rest [60,61]).run=some ((kM [60,61] rest).1,((kM [60,61] rest).2.1,((kM [60,61] rest).2.2.1,(kM [60,61] rest).2.2.2))):=Zj rest [60,61] hr (by decide)
  refine⟨[(wd l 1,((vM.length:Int)-1,(PL.tQ (λt=>zi (kM [60,61] rest).2.2.1 t) 0 [[61],[60],[60,61]],((kM [60,61] rest).1,((kM [60,61] rest).2.1,())))))],?_,?_⟩
  ·unfold wZ
   refine(z6 (a:=(false,((),(xs,(hZ,(vM,(cD,(cy,cE)))))))) ?_ _).trans ?_
   ·rw[z8 (by rw[c1.1]; rfl),zb (fg (by omega)),z6 (xG _)]
    show(T.ite (!zG (wd l 1)) _ _).run=_
    rw[c1.2.1,z8 (by rfl)]
    simp only[zq,T.zh,zo,z7]
    rw[beq_eq_false_iff_ne.2 (by omega)]
   ·dsimp only
    rw[zg,zb (fg (by omega)),z6 hE]
    dsimp only
    rw[show wP=.ret [[61],[60],[60,61]]from rfl,z6 (z7 _),z6 (sB _ _ (by decide)),mN _ rfl rfl rfl (by omega),hw,dQ,dQ]
    simp only[List.length_append,List.length_singleton,zq,T.zh,zo,z7]
    rw[e0,q1]
    rfl
  ·intro h0
   rw[e0]at h0 ⊢
   obtain⟨g1,g2,g3⟩:=q2 h0
   rw[g1,g2,g3]
 ·have e2:DC vM.length l rest=(2,xD):=by unfold DC; rw[if_neg c1]
  refine⟨[],?_,λh=>by rw[e2]at h; exact absurd h (by decide)⟩
  unfold wZ
  rw[e2,List.append_nil]
  refine(z6 (a:=(true,((),(xs,(hZ,(vM,(cD,(cy,cE)))))))) ?_ _).trans ?_
  ·by_cases k:l.length=2
   ·rw[z8 (by rw[k]; rfl),zb (fg (by omega)),z6 (xG _)]
    show(T.ite (!zG (wd l 1)) _ _).run=_
    cases h:zG (wd l 1)with
    | false =>
     rw[za (by rfl)]
     simp only[zq,T.zh,zo,z7]
    | true =>
     rw[z8 (by rfl)]
     simp only[zq,T.zh,zo,z7]
     have:vM.length=0:=Classical.byContradiction λg=>c1 ⟨k,h,g⟩
     rw[this]; rfl
   ·rw[za (by rw[bne_iff_ne]; omega)]
    simp only[zq,T.zh,zo,z7]
  ·dsimp only
   rw[zj]
   simp only[zq,T.zh,zo,z7]
theorem Hn(l:List ze)(rest:ze)(xs:List Switch)(hZ:List Param)(vM:List xm)(cD:List Field)(cy:List qI)(cE:List Check)(hx:cy.length<=1000000)(hr:rest.length<=80000) :
  ∃ Q,(wo l rest () xs hZ vM cD cy cE).run=some ((K2 l rest).1,((),(xs,(hZ,(vM,(cD,(cy++Q,cE)))))))/\((K2 l rest).1=0->Q=(K2 l rest).2.2.2.2.2.1):=by
 have hI:(qP [[114,101,113,117,105,114,101,100],[115,116,114,111,110,103],[109,101,100,105,117,109],[119,101,97,107]] (nth l (1:Int) (zk .str))).run=some (HP (wd l 1)):=sB _ _ (by decide)
 have hC:(wc [[114,101,113,117,105,114,101,100],[115,116,114,111,110,103],[109,101,100,105,117,109],[119,101,97,107]] (nth l (1:Int) (zk .str))).run=some (decide (0<=HP (wd l 1))):=by
  unfold wc
  rw[z6 hI,z7]
 have hS:xI=.ret [[114,101,113,117,105,114,101,100],[115,116,114,111,110,103],[109,101,100,105,117,109],[119,101,97,107]]:=rfl
 by_cases c1:3<=l.length/\0<=HP (wd l 1)/\zG (wd l 2)=true
 ·have hg:(jK l (3:Int)).run=some ((Vy l 3).1,(Vy l 3).2):=XD l 3 (by decide)
  obtain⟨q1,q2⟩:=Py rest
  have hE:(vw rest [61]).run=some ((kM [61] rest).1,((kM [61] rest).2.1,((kM [61] rest).2.2.1,(kM [61] rest).2.2.2))):=Zj rest [61] hr (by decide)
  by_cases c2:(Vy l 3).2=true
  ·refine⟨[(wd l 2,(HP (wd l 1),((Vy l 3).1,((kM [61] rest).1,((kM [61] rest).2.1,())))))],?_,?_⟩
   ·unfold wo
    refine(z6 (a:=(false,((),(xs,(hZ,(vM,(cD,(cy,cE)))))))) ?_ _).trans ?_
    ·rw[z8 (decide_eq_false (by omega)),hS,z6 (z7 _),zb (fg (by omega)),z6 hC,z8 (by rw[decide_eq_true c1.2.1]; rfl),zb (Dn (by omega)),z6 (xG _)]
     simp only[zq,T.zh,zo,z7]
     show some (!zG (wd l 2),_)=_
     rw[c1.2.2]; rfl
    ·dsimp only
     rw[zg,z6 hg]
     dsimp only
     rw[c2,z8 (by rfl),zb (Dn (by omega)),hS,z6 (z7 _),zb (fg (by omega)),z6 hI,z6 hE]
     dsimp only
     rw[mN _ rfl rfl rfl (by omega),dQ,dQ]
     simp only[List.length_append,List.length_singleton,zq,T.zh,zo,z7]
     have:(kM [61] rest).2.2.2=(K2 l rest).1:=by
      unfold K2
      rw[if_pos ⟨c1.1,c1.2.1,c1.2.2,c2⟩,q1]
      split<;>rfl
     rw[this]
     rfl
   ·intro h0
    unfold K2 at h0 ⊢
    rw[if_pos ⟨c1.1,c1.2.1,c1.2.2,c2⟩]at h0 ⊢
    by_cases k:(qQ rest).2.2.2=0/\(qQ rest).2.2.1≠0
    ·rw[if_pos k]at h0; exact absurd h0 (by decide)
    ·rw[if_neg k]at h0 ⊢ q1
     obtain⟨g1,g2⟩:=q2 (q1.trans h0)
     rw[g1,g2]
  ·have e2:K2 l rest=(2,xD):=by unfold K2; rw[if_neg (λh=>c2 h.2.2.2)]
   refine⟨[],?_,λh=>by rw[e2]at h; exact absurd h (by decide)⟩
   unfold wo
   rw[e2,List.append_nil]
   refine(z6 (a:=(false,((),(xs,(hZ,(vM,(cD,(cy,cE)))))))) ?_ _).trans ?_
   ·rw[z8 (decide_eq_false (by omega)),hS,z6 (z7 _),zb (fg (by omega)),z6 hC,z8 (by rw[decide_eq_true c1.2.1]; rfl),zb (Dn (by omega)),z6 (xG _)]
    simp only[zq,T.zh,zo,z7]
    show some (!zG (wd l 2),_)=_
    rw[c1.2.2]; rfl
   ·dsimp only
    rw[zg,z6 hg]
    dsimp only
    rw[za (by cases h:(Vy l 3).2 with | false=>rfl | true=>exact absurd h c2)]
    simp only[zq,T.zh,zo,z7]
 ·have e2:K2 l rest=(2,xD):=by unfold K2; rw[if_neg (λh=>c1 ⟨h.1,h.2.1,h.2.2.1⟩)]
  refine⟨[],?_,λh=>by rw[e2]at h; exact absurd h (by decide)⟩
  unfold wo
  rw[e2,List.append_nil]
  refine(z6 (a:=(true,((),(xs,(hZ,(vM,(cD,(cy,cE)))))))) ?_ _).trans ?_
  ·by_cases k:3<=l.length
   ·rw[z8 (decide_eq_false (by omega)),hS,z6 (z7 _),zb (fg (by omega)),z6 hC]
    by_cases k2:0<=HP (wd l 1)
    ·rw[z8 (by rw[decide_eq_true k2]; rfl),zb (Dn (by omega)),z6 (xG _)]
     simp only[zq,T.zh,zo,z7]
     show some (!zG (wd l 2),_)=_
     cases h:zG (wd l 2)with
     | false=>rfl
     | true=>exact absurd ⟨k,k2,h⟩ c1
    ·rw[za (by rw[decide_eq_false k2]; rfl)]
     simp only[zq,T.zh,zo,z7]
   ·rw[za (decide_eq_true (by omega))]
    simp only[zq,T.zh,zo,z7]
  ·dsimp only
   rw[zj]
   simp only[zq,T.zh,zo,z7]
def Qt(w:ze):Bool:=match w with | b::_=>decide (b=35) | []=>false
def lF(np:Nat)(l:List ze)(rest:ze)(colon:Bool):Int×gJ:=match l with
 | []=>if colon=true then(2,xD)else(0,xD)
 | w::_=>if Qt w=true then(0,xD)else
   if colon=true then(if zi w [99,104,101,99,107]=true then DC np l rest else if zi w [114,117,108,101]=true then K2 l rest else(2,xD))
   else if zi w [115,119,105,116,99,104]=true then YB l else if zi w [112,97,114,97,109]=true then WH l
   else if zi w [112,97,103,101]=true then V6 l else if zi w [102,105,101,108,100]=true then Uz np l else(2,xD)
theorem wu(np:Nat)(w:ze)(r:List ze)(rest:ze)(colon:Bool):lF np (w::r) rest colon=if Qt w=true then(0,xD)else
   if colon=true then(if zi w [99,104,101,99,107]=true then DC np (w::r) rest else if zi w [114,117,108,101]=true then K2 (w::r) rest else(2,xD))
   else if zi w [115,119,105,116,99,104]=true then YB (w::r)else if zi w [112,97,114,97,109]=true then WH (w::r)
   else if zi w [112,97,103,101]=true then V6 (w::r)else if zi w [102,105,101,108,100]=true then Uz np (w::r)else(2,xD):=rfl
def wz(np:Nat)(line:ze):Int×gJ:=lF np (xA 32 [] (wU line [58]).1) (wU line [58]).2.1 (wU line [58]).2.2
theorem Qi(c:UInt8):∀ (s cur:ze),∀ w∈xA c cur s,w≠[]/\w.length<=cur.length+s.length
 | [],cur,w,h=>by
  unfold xA at h
  split at h
  ·cases h
  ·rename_i hc
   rw[List.mem_singleton.1 h]
   exact⟨hc,by omega⟩
 | b::r,cur,w,h=>by
  unfold xA at h
  split at h
  ·split at h
   ·have:=Qi c r [] w h
    exact⟨this.1,by have:=this.2; simp only[List.length_cons,List.length_nil]at *; omega⟩
   ·rename_i hc
    rcases List.mem_cons.1 h with rfl | h
    ·exact⟨hc,by omega⟩
    ·have:=Qi c r [] w h
     exact⟨this.1,by have:=this.2; simp only[List.length_cons,List.length_nil]at *; omega⟩
  ·have:=Qi c r (cur++[b]) w h
   exact⟨this.1,by have:=this.2; simp only[List.length_append,List.length_cons,List.length_nil]at *; omega⟩
structure SmS(xs:List Switch)(hZ:List Param)(vM:List xm)(cD:List Field)(cy:List qI)(cE:List Check):Prop where
 l0:xs.length<=1000000
 l1:hZ.length<=1000000
 l2:vM.length<=1000000
 l3:cD.length<=1000000
 l4:cy.length<=1000000
 l5:cE.length<=1000000
def fh(xs:List Switch)(hZ:List Param)(vM:List xm)(cD:List Field)(cy:List qI)(cE:List Check)(D:gJ):List Switch×List Param×List xm×List Field×List qI×List Check :=
 (xs++D.1,(hZ++D.2.1,(vM++D.2.2.1,(cD++D.2.2.2.1,(cy++D.2.2.2.2.1,cE++D.2.2.2.2.2)))))
theorem Ql(xs:List Switch)(hZ:List Param)(vM:List xm)(cD:List Field)(cy:List qI)(cE:List Check):fh xs hZ vM cD cy cE xD=(xs,(hZ,(vM,(cD,(cy,cE))))):=by
 unfold fh xD
 simp only[List.append_nil]
theorem RQ(line:ze)(hl:line.length<=80000)(xs:List Switch)(hZ:List Param)(vM:List xm)(cD:List Field)(cy:List qI)(cE:List Check)(h:SmS xs hZ vM cD cy cE) :
  ∃ D,(di line () xs hZ vM cD cy cE).run=some ((wz vM.length line).1,((),fh xs hZ vM cD cy cE D))/\((wz vM.length line).1=0->D=(wz vM.length line).2):=by
 obtain⟨h0,h1,h2,h3,h4,h5⟩:=h
 have hC:(strings_Cut line [58]).run=some ((wU line [58]).1,((wU line [58]).2.1,(wU line [58]).2.2)):=by
  unfold strings_Cut
  rw[zb (by omega),z7]
 have hlen:=OA line 58
 unfold di wz
 rw[z6 hC]
 dsimp only
 rw[z6 (MR _ (by omega))]
 have hm:=Qi 32 (wU line [58]).1 []
 generalize xA 32 [] (wU line [58]).1=l at hm ⊢
 obtain⟨_,hr⟩:=hlen
 generalize (wU line [58]).2.1=rest at hr ⊢
 generalize (wU line [58]).2.2=colon
 cases l with
 | nil =>
  refine⟨xD,?_,?_⟩
  ·rw[zb ⟨(λ_ _ h=>by simp at h),(λh=>by simp at h)⟩,Ql]
   cases colon with
   | false =>
    rw[za (by rfl)]
    simp only[zq,T.zh,zo,z7]
    rfl
   | true =>
    rw[z8 (by rfl),za (by rfl),za (by rfl)]
    simp only[zq,T.zh,zo,z7]
    rfl
  ·intro h
   cases colon with
   | false=>rfl
   | true=>exact absurd h (show ¬ (2:Int)=0 by decide)
 | cons w r =>
  obtain⟨m1,m2⟩:=hm w List.mem_cons_self
  cases w with
  | nil=>exact absurd rfl m1
  | cons b q =>
  have hL:(((((b::q)::r).length:Nat):Int)==(0:Int))=false:=by rw[List.length_cons,beq_eq_false_iff_ne]; omega
  have hP:decide ((0:Int)<((((b::q)::r).length:Nat):Int))=true:=by rw[List.length_cons]; exact decide_eq_true (by omega)
  have Fh:qt (0:Int) ((b::q)::r).length:=z3f (by simp)
  have h0w:qt (0:Int) (nth ((b::q)::r) (0:Int) (zk .str)).length:=z3f (by show 0<(b::q).length; simp)
  have hb:(qo (nth ((b::q)::r) (0:Int) (zk .str)) (0:Int)==(35:Int))=decide (b=35):=OW b 35
  have hw:nth ((b::q)::r) (0:Int) (zk .str)=b::q:=rfl
  rw[zb ⟨λ_ _ _=>⟨Fh,h0w⟩,λ_ _=>⟨Fh,h0w⟩⟩,hL,hb,hP]
  simp only[cond_false,Bool.true_and]
  by_cases c:b=35
  ·have e:lF vM.length ((b::q)::r) rest colon=(0,xD):=if_pos (decide_eq_true c)
   rw[e]
   refine⟨xD,?_,λ_=>rfl⟩
   rw[za (decide_eq_true c),Ql]
   simp only[zq,T.zh,zo,z7]
  ·rw[z8 (decide_eq_false c),zg,zb (λ_=>Fh),hw]
   have hn:¬ (Qt (b::q)=true):=λh=>c (of_decide_eq_true h)
   cases colon with
   | true =>
    by_cases k1:zi (b::q) [99,104,101,99,107]=true
    ·have e:lF vM.length ((b::q)::r) rest true=DC vM.length ((b::q)::r) rest:=by
      rw[wu,if_neg hn,if_pos rfl,if_pos k1]
     obtain⟨Q,g1,g2⟩:=Kt ((b::q)::r) rest xs hZ vM cD cy cE h5 h2 (by omega)
     rw[e]
     refine⟨([],[],[],[],[],Q),?_,λh => ?_⟩
     ·rw[za (by rw[k1]; rfl)]
      simp only[zq,T.zh,zo]
      rw[z6 g1]
      dsimp only
      simp only[zq,T.zh,zo,z7]
      unfold fh
      simp only[List.append_nil]
     ·rw[g2 h]
      unfold DC at h ⊢
      split at h
      ·rename_i d; rw[if_pos d]
      ·exact absurd h (by decide)
    ·by_cases k2:zi (b::q) [114,117,108,101]=true
     ·have e:lF vM.length ((b::q)::r) rest true=K2 ((b::q)::r) rest:=by
       rw[wu,if_neg hn,if_pos rfl,if_neg k1,if_pos k2]
      obtain⟨Q,g1,g2⟩:=Hn ((b::q)::r) rest xs hZ vM cD cy cE h4 (by omega)
      rw[e]
      refine⟨([],[],[],[],Q,[]),?_,λh => ?_⟩
      ·rw[z8 (by rw[Bool.eq_false_iff.2 k1]; rfl),zb (λ_=>Fh),za (by rw[k2]; rfl)]
       simp only[zq,T.zh,zo]
       rw[z6 g1]
       dsimp only
       simp only[zq,T.zh,zo,z7]
       unfold fh
       simp only[List.append_nil]
      ·rw[g2 h]
       unfold K2 at h ⊢
       split at h
       ·rename_i d
        rw[if_pos d]
        split at h
        ·exact absurd h (by decide)
        ·rename_i d2; rw[if_neg d2]
       ·exact absurd h (by decide)
     ·have e:lF vM.length ((b::q)::r) rest true=(2,xD):=by
       rw[wu,if_neg hn,if_pos rfl,if_neg k1,if_neg k2]
      rw[e]
      refine⟨xD,?_,λ_=>rfl⟩
      rw[z8 (by rw[Bool.eq_false_iff.2 k1]; rfl),zb (λ_=>Fh),z8 (by rw[Bool.eq_false_iff.2 k2]; rfl),zj,za (by rfl),Ql]
      simp only[zq,T.zh,zo,z7]
   | false =>
    have fin:∀ (v:Int),v=0\/v=2->∀ (ys:List Switch) (ys1:List Param) (ys2:List xm) (ys3:List Field) (ys4:List qI) (ys5:List Check),(T.ite (!decide (v=0)) (.ret ((2:Int),((),(ys,(ys1,(ys2,(ys3,(ys4,ys5)))))))) (.ret ((0:Int),((),(ys,(ys1,(ys2,(ys3,(ys4,ys5)))))))):T (Int×Unit×List Switch×List Param×List xm×List Field×List qI×List Check)).run=some (v,((),(ys,(ys1,(ys2,(ys3,(ys4,ys5))))))):=by
     intro v hv ys ys1 ys2 ys3 ys4 ys5
     rcases hv with rfl | rfl<;>rfl
    rw[z8 (by rfl),zb (λh=>by cases h),z8 (by rfl),zg,zb Fh]
    by_cases k1:zi (b::q) [115,119,105,116,99,104]=true
    ·have e:lF vM.length ((b::q)::r) rest false=YB ((b::q)::r):=by
      rw[wu,if_neg hn,if_neg (by decide),if_pos k1]
     have g1:=Hv ((b::q)::r) xs hZ vM cD cy cE h0
     rw[e]
     refine⟨((YB ((b::q)::r)).2.1,[],[],[],[],[]),?_,λh => ?_⟩
     ·rw[za k1]
      simp only[zq,T.zh,zo]
      rw[z6 g1]
      dsimp only
      unfold fh
      simp only[List.append_nil]
      have:(YB ((b::q)::r)).1=0\/(YB ((b::q)::r)).1=2:=by unfold YB; split; exact .inl rfl; exact .inr rfl
      rcases this with h | h<;>rw[h]
      ·rw[z8 (by rfl)]; simp only[zq,T.zh,zo,z7]
      ·rw[za (by rfl)]; simp only[zq,T.zh,zo,z7]
     ·unfold YB at h ⊢
      split at h
      ·rename_i d; rw[if_pos d]
      ·exact absurd h (by decide)
    ·by_cases k2:zi (b::q) [112,97,114,97,109]=true
     ·have e:lF vM.length ((b::q)::r) rest false=WH ((b::q)::r):=by
       rw[wu,if_neg hn,if_neg (by decide),if_neg k1,if_pos k2]
      obtain⟨Q,g1,g2⟩:=CF ((b::q)::r) xs hZ vM cD cy cE h1 (λs hs=>by have:=(hm s hs).2; simp only[List.length_nil]at this; omega)
      rw[e]
      refine⟨([],Q,[],[],[],[]),?_,λh => ?_⟩
      ·rw[z8 (Bool.eq_false_iff.2 k1),zb Fh,za k2]
       simp only[zq,T.zh,zo]
       rw[z6 g1]
       dsimp only
       unfold fh
       simp only[List.append_nil]
       have:(WH ((b::q)::r)).1=0\/(WH ((b::q)::r)).1=2:=by unfold WH; split; split; exact .inl rfl; exact .inr rfl; exact .inr rfl
       rcases this with h | h<;>rw[h]
       ·rw[z8 (by rfl)]; simp only[zq,T.zh,zo,z7]
       ·rw[za (by rfl)]; simp only[zq,T.zh,zo,z7]
      ·rw[g2 h]
       unfold WH at h ⊢
       split at h
       ·rename_i d
        rw[if_pos d]
        cases hd:tb (wd ((b::q)::r) 2)with
        | none=>rw[hd]at h; exact absurd h (show ¬ (2:Int)=0 by decide)
        | some v=>rfl
       ·exact absurd h (by decide)
     ·by_cases k3:zi (b::q) [112,97,103,101]=true
      ·have e:lF vM.length ((b::q)::r) rest false=V6 ((b::q)::r):=by
        rw[wu,if_neg hn,if_neg (by decide),if_neg k1,if_neg k2,if_pos k3]
       obtain⟨Q,g1,g2⟩:=HQ ((b::q)::r) xs hZ vM cD cy cE h2
       rw[e]
       refine⟨([],[],Q,[],[],[]),?_,λh => ?_⟩
       ·rw[z8 (Bool.eq_false_iff.2 k1),zb Fh,z8 (Bool.eq_false_iff.2 k2),zb Fh,za k3]
        simp only[zq,T.zh,zo]
        rw[z6 g1]
        dsimp only
        unfold fh
        simp only[List.append_nil]
        have:(V6 ((b::q)::r)).1=0\/(V6 ((b::q)::r)).1=2:=by unfold V6; split; exact .inl rfl; exact .inr rfl
        rcases this with h | h<;>rw[h]
        ·rw[z8 (by rfl)]; simp only[zq,T.zh,zo,z7]
        ·rw[za (by rfl)]; simp only[zq,T.zh,zo,z7]
       ·rw[g2 h]
        unfold V6 at h ⊢
        split at h
        ·rename_i d; rw[if_pos d]
        ·exact absurd h (by decide)
      ·by_cases k4:zi (b::q) [102,105,101,108,100]=true
       ·have e:lF vM.length ((b::q)::r) rest false=Uz vM.length ((b::q)::r):=by
         rw[wu,if_neg hn,if_neg (by decide),if_neg k1,if_neg k2,if_neg k3,if_pos k4]
        obtain⟨Q,g1,g2⟩:=Ka ((b::q)::r) xs hZ vM cD cy cE h3 h2
        rw[e]
        refine⟨([],[],[],Q,[],[]),?_,λh => ?_⟩
        ·rw[z8 (Bool.eq_false_iff.2 k1),zb Fh,z8 (Bool.eq_false_iff.2 k2),zb Fh,z8 (Bool.eq_false_iff.2 k3),zb Fh,za k4]
         simp only[zq,T.zh,zo]
         rw[z6 g1]
         dsimp only
         unfold fh
         simp only[List.append_nil]
         have:(Uz vM.length ((b::q)::r)).1=0\/(Uz vM.length ((b::q)::r)).1=2:=by unfold Uz; split; split; exact .inl rfl; exact .inr rfl; exact .inr rfl
         rcases this with h | h<;>rw[h]
         ·rw[z8 (by rfl)]; simp only[zq,T.zh,zo,z7]
         ·rw[za (by rfl)]; simp only[zq,T.zh,zo,z7]
        ·rw[g2 h]
         unfold Uz at h ⊢
         split at h
         ·rename_i d
          rw[if_pos d]
          cases hd:iB (yb ((b::q)::r))with
          | none=>rw[hd]at h; exact absurd h (show ¬ (2:Int)=0 by decide)
          | some v=>rfl
         ·exact absurd h (by decide)
       ·have e:lF vM.length ((b::q)::r) rest false=(2,xD):=by
         rw[wu,if_neg hn,if_neg (by decide),if_neg k1,if_neg k2,if_neg k3,if_neg k4]
        rw[e]
        refine⟨xD,?_,λ_=>rfl⟩
        rw[z8 (Bool.eq_false_iff.2 k1),zb Fh,z8 (Bool.eq_false_iff.2 k2),zb Fh,z8 (Bool.eq_false_iff.2 k3),zb Fh,z8 (Bool.eq_false_iff.2 k4),za (by rfl),Ql]
        simp only[zq,T.zh,zo,z7]
abbrev bn(S D:gJ):gJ:=fh S.1 S.2.1 S.2.2.1 S.2.2.2.1 S.2.2.2.2.1 S.2.2.2.2.2 D
def uf:List ze->gJ->Nat->(Nat×Int)⊕gJ
 | [],S,_=>.inr S
 | line::r,S,k=>if(wz S.2.2.1.length line).1=0 then uf r (bn S (wz S.2.2.1.length line).2) (k+1)else .inl (k+1,(wz S.2.2.1.length line).1)
def Ew(S:gJ):Form:=(S.1,(S.2.1,(S.2.2.1,(S.2.2.2.1,(S.2.2.2.2.1,(S.2.2.2.2.2,()))))))
def noF:Form:=(([]:List Switch),(([]:List Param),(([]:List xm),(([]:List Field),(([]:List qI),(([]:List Check),()))))))
def Ga(s:ze):Form×Int×Int:=if 16384<s.length then(noF,(0,3))else match uf (js 10 s) xD 0 with
 | .inl (k,e)=>(noF,((k:Int),e))
 | .inr S=>if ff (Ew S)=true then(Ew S,(0,0))else(noF,(0,2))
structure GS(S:gJ):Prop where
 s:∀ x∈S.1,x.1.length<=600
 p:∀ x∈S.2.1,x.1.length<=600/\we 100 x.2.1
 g:∀ x∈S.2.2.1,x.1.length<=600/\x.2.1.length<=600
 d:∀ x∈S.2.2.2.1,x.1.length<=600
 r:∀ x∈S.2.2.2.2.1,x.1.length<=600/\x.2.2.1.length<=600/\wm x.2.2.2.1/\wm x.2.2.2.2.1
 c:∀ x∈S.2.2.2.2.2,x.1.length<=600/\wm x.2.2.2.1/\wm x.2.2.2.2.1
def Lp(S:gJ):Nat:=S.1.length+S.2.1.length+S.2.2.1.length+S.2.2.2.1.length+S.2.2.2.2.1.length+S.2.2.2.2.2.length
theorem z4H:GS xD:=⟨(λ_ h=>by cases h),(λ_ h=>by cases h),(λ_ h=>by cases h),(λ_ h=>by cases h),(λ_ h=>by cases h),(λ_ h=>by cases h)⟩
theorem z7A{S D:gJ}(h:GS S)(k:GS D):GS (bn S D) :=
 ⟨λx hx=>(List.mem_append.1 hx).elim (h.s x) (k.s x),λx hx=>(List.mem_append.1 hx).elim (h.p x) (k.p x),λx hx=>(List.mem_append.1 hx).elim (h.g x) (k.g x),
  λx hx=>(List.mem_append.1 hx).elim (h.d x) (k.d x),λx hx=>(List.mem_append.1 hx).elim (h.r x) (k.r x),λx hx=>(List.mem_append.1 hx).elim (h.c x) (k.c x)⟩
theorem MC(S D:gJ):Lp (bn S D)=Lp S+Lp D:=by
 unfold Lp bn fh
 simp only[List.length_append]
 omega
theorem VX{s:ze}(h:zG s=true):s.length<=600:=by have:=(nf h).1; omega
theorem M3(w:List ze)(n:Nat):(Vy w n).1.length<=600:=by
 unfold Vy
 split
 ·exact Nat.zero_le _
 ·split
  ·rename_i h; exact VX h.2.2
  ·exact Nat.zero_le _
theorem z0U{s:ze}{r:Rat}(h:tb s=some r):we 100 r:=by
 have:RB s=some r:=by
  unfold RB
  unfold tb at h
  split at h
  ·cases h
  ·rename_i c
   rw[if_neg c]
   cases q:tA s with
   | none=>rw[q]at h; cases h
   | some p=>rw[q]at h; exact h
 have h2:=z3P this
 exact⟨h2.1,h2.2.1,by have:=h2.2.2.1; omega,by have:=h2.2.2.2; omega⟩
theorem D6(s:ze):wm (qQ s).1/\wm (qQ s).2.1:=by
 have hz:wm zE:=rS (by decide) WL.1
 unfold qQ
 split
 ·exact⟨hz,hz⟩
 ·split
  ·exact⟨hz,hz⟩
  ·exact⟨U7 _,U7 _⟩
theorem rE{α:Type}{x y:α}{p:α->Prop}(h:p x)(hy:y∈[x]):p y:=by rw[List.mem_singleton.1 hy]; exact h
theorem YP(np:Nat)(line:ze):GS (wz np line).2/\Lp (wz np line).2<=1:=by
 have hz:GS xD/\Lp xD<=1:=⟨z4H,by decide⟩
 unfold wz
 generalize xA 32 [] (wU line [58]).1=l
 generalize (wU line [58]).2.1=rest
 generalize (wU line [58]).2.2=colon
 cases l with
 | nil=>cases colon; exact hz; exact hz
 | cons w r =>
  rw[wu]
  split
  ·exact hz
  ·split
   ·split
    ·unfold DC
     split
     ·rename_i h
      exact⟨⟨(λ_ h=>by cases h),(λ_ h=>by cases h),(λ_ h=>by cases h),(λ_ h=>by cases h),(λ_ h=>by cases h),λy hy=>rE (p:=λx:Check=>x.1.length<=600/\wm x.2.2.2.1/\wm x.2.2.2.2.1) ⟨VX h.2.1,D6 rest⟩ hy⟩,Nat.le_refl 1⟩
     ·exact hz
    ·split
     ·unfold K2
      split
      ·rename_i h
       split
       ·exact hz
       ·exact⟨⟨(λ_ h=>by cases h),(λ_ h=>by cases h),(λ_ h=>by cases h),(λ_ h=>by cases h),λy hy=>rE (p:=λx:qI=>x.1.length<=600/\x.2.2.1.length<=600/\wm x.2.2.2.1/\wm x.2.2.2.2.1) ⟨VX h.2.2.1,M3 _ _,D6 rest⟩ hy,(λ_ h=>by cases h)⟩,Nat.le_refl 1⟩
      ·exact hz
     ·exact hz
   ·split
    ·unfold YB
     split
     ·rename_i h
      exact⟨⟨λy hy=>rE (p:=λx:Switch=>x.1.length<=600) (VX h.2.1) hy,(λ_ h=>by cases h),(λ_ h=>by cases h),(λ_ h=>by cases h),(λ_ h=>by cases h),(λ_ h=>by cases h)⟩,Nat.le_refl 1⟩
     ·exact hz
    ·split
     ·unfold WH
      split
      ·rename_i h
       cases hd:tb (wd (w::r) 2)with
       | none=>exact hz
       | some v=>exact⟨⟨(λ_ h=>by cases h),λy hy=>rE (p:=λx:Param=>x.1.length<=600/\we 100 x.2.1) ⟨VX h.2,z0U hd⟩ hy,(λ_ h=>by cases h),(λ_ h=>by cases h),(λ_ h=>by cases h),(λ_ h=>by cases h)⟩,Nat.le_refl 1⟩
      ·exact hz
     ·split
      ·unfold V6
       split
       ·rename_i h
        exact⟨⟨(λ_ h=>by cases h),(λ_ h=>by cases h),λy hy=>rE (p:=λx:xm=>x.1.length<=600/\x.2.1.length<=600) ⟨VX h.2.1,M3 _ _⟩ hy,(λ_ h=>by cases h),(λ_ h=>by cases h),(λ_ h=>by cases h)⟩,Nat.le_refl 1⟩
       ·exact hz
      ·split
       ·unfold Uz
        split
        ·rename_i h
         cases hd:iB (yb (w::r))with
         | none=>exact hz
         | some v=>exact⟨⟨(λ_ h=>by cases h),(λ_ h=>by cases h),(λ_ h=>by cases h),λy hy=>rE (p:=λx:Field=>x.1.length<=600) (VX h.2.1) hy,(λ_ h=>by cases h),(λ_ h=>by cases h)⟩,Nat.le_refl 1⟩
        ·exact hz
       ·exact hz
theorem JD:∀ (ls:List ze) (S:gJ) (k:Nat) (S':gJ),uf ls S k=.inr S'->GS S->GS S'/\Lp S'<=Lp S+ls.length
 | [],S,k,S',h,hg=>by
  injection h with h
  subst h
  exact⟨hg,Nat.le_refl _⟩
 | line::r,S,k,S',h,hg=>by
  unfold uf at h
  split at h
  ·obtain⟨a1,a2⟩:=YP S.2.2.1.length line
   have:=JD r _ _ S' h (z7A hg a1)
   rw[MC]at this
   exact⟨this.1,by have:=this.2; rw[List.length_cons]; omega⟩
  ·cases h
theorem GC(c:UInt8):∀ s:ze,(js c s).length<=s.length+1
 | []=>Nat.le_refl _
 | b::r=>by
  have:=GC c r
  unfold js
  split
  ·rw[List.length_cons,List.length_cons]; omega
  ·cases h:js c r with
   | nil=>simp[NC]
   | cons x y=>rw[h]at this; simp only[NC,List.length_cons]at *; omega
theorem IU(c:UInt8):∀ (s:ze),∀ l∈js c s,l.length<=s.length
 | [],l,h=>by rw[show js c []=[[]]from rfl]at h; rw[List.mem_singleton.1 h]; exact Nat.le_refl _
 | b::r,l,h=>by
  have ih:=IU c r
  unfold js at h
  split at h
  ·rcases List.mem_cons.1 h with rfl | h
   ·exact Nat.zero_le _
   ·have:=ih l h; rw[List.length_cons]; omega
  ·cases q:js c r with
   | nil=>rw[q]at h; rw[List.mem_singleton.1 (show l∈[[b]]from h)]; simp
   | cons x y =>
    rw[q]at h ih
    rcases List.mem_cons.1 (show l∈(b::x)::y from h)with rfl | h
    ·have:=ih x List.mem_cons_self; rw[List.length_cons,List.length_cons]; omega
    ·have:=ih l (List.mem_cons_of_mem _ h); rw[List.length_cons]; omega
theorem z7I{S:gJ}(h:Lp S<=1000000):SmS S.1 S.2.1 S.2.2.1 S.2.2.2.1 S.2.2.2.2.1 S.2.2.2.2.2:=by
 unfold Lp at h
 exact⟨by omega,by omega,by omega,by omega,by omega,by omega⟩
theorem z2A{α:Type}(l:List α):List.drop (0:Nat) (List.take ((0:Nat)+l.length) l)=l:=by rw[Nat.zero_add,List.take_length,List.drop_zero]
def stL(S:gJ):List Check×List Check×List qI×List qI×List Switch×List Switch×List Param×List Param×List xm×List xm×List Field×List Field:=([],(S.2.2.2.2.2,([],(S.2.2.2.2.1,([],(S.1,([],(S.2.1,([],(S.2.2.1,([],S.2.2.2.1)))))))))))
theorem nn(s:ze)(hF:∀ S,uf (js 10 s) xD 0=.inr S->FS (Ew S)):(jE s).run=some (Ga s):=by
 unfold jE Ga
 by_cases hs:16384<s.length
 ·rw[if_pos hs,za (decide_eq_true (by omega)),z7]
  rfl
 ·rw[if_neg hs,z8 (decide_eq_false (by omega))]
  have pC:(strings_Split s [10]).run=some (js 10 s):=by
   unfold strings_Split
   rw[zb ⟨by omega,rfl⟩,z7]
   rfl
  rw[z6 pC]
  have hln:=GC 10 s
  have hmm:=IU 10 s
  generalize js 10 s=ls at hln hmm hF ⊢
  have key:∀ (m k:Nat) (S:gJ),k+m=ls.length->Lp S<=k->∃ R,(eI ls (ls.length:Int) ((k:Int),((),((),stL S)))).run=some R /\
    (match uf (ls.drop k) S k with
     | .inl (n,e)=>∃ Z,R=.inr ((n:Int),(e,(noF,Z)))
     | .inr S'=>R=.inl ((),((),stL S'))):=by
   intro m
   induction m with
   | zero =>
    intro k S hk ht
    have:k=ls.length:=by omega
    subst this
    rw[List.drop_length]
    refine⟨.inl ((),((),stL S)),qz ?_,rfl⟩
    unfold jO stL
    dsimp only
    rw[z8 (kf _)]
    simp only[zq,T.zh,zo,z7]
   | succ m ih =>
    intro k S hk ht
    have h1:k<ls.length:=by omega
    have hd:=List.drop_eq_getElem_cons h1
    obtain⟨D,g1,g2⟩:=RQ ls[k] (by have:=hmm _ (List.getElem_mem h1); omega) S.1 S.2.1 S.2.2.1 S.2.2.2.1 S.2.2.2.2.1 S.2.2.2.2.2 (z7I (by omega))
    rw[hd]
    unfold uf
    by_cases c:(wz S.2.2.1.length ls[k]).1=0
    ·rw[if_pos c]
     have hD:=g2 c
     subst hD
     obtain⟨a1,a2⟩:=YP S.2.2.1.length ls[k]
     obtain⟨R,r1,r2⟩:=ih (k+1) (bn S (wz S.2.2.1.length ls[k]).2) (by omega) (by rw[MC]; omega)
     refine⟨R,?_,r2⟩
     refine(vp (s':=(((k+1:Nat):Int),((),((),stL (bn S (wz S.2.2.1.length ls[k]).2))))) ?_).trans r1
     unfold jO stL
     dsimp only
     rw[za (uL h1),zb (qf h1),kO h1]
     simp only[zq,T.zh,zo]
     rw[z6 g1,c]
     unfold fh
     dsimp only
     rw[z8 (by rfl)]
     simp only[zq,T.zh,zo,z7]
     rw[ll k _ h1 (by omega)]
     rfl
    ·rw[if_neg c]
     refine⟨.inr (((k+1:Nat):Int),((wz S.2.2.1.length ls[k]).1,(noF,((),stL (bn S D))))),qz ?_,_,rfl⟩
     ·unfold jO stL
      dsimp only
      rw[za (uL h1),zb (qf h1),kO h1]
      simp only[zq,T.zh,zo]
      rw[z6 g1]
      unfold fh
      dsimp only
      rw[za (by simpa using c)]
      simp only[zq,T.zh,zo,z7]
      rw[ll k _ h1 (by omega)]
      rfl
  obtain⟨R,r1,r2⟩:=key ls.length 0 xD (by omega) (Nat.le_refl _)
  rw[List.drop_zero]at r2
  have r1:(eI ls (ls.length:Int) ((0:Int),((),((),(([]:List Check),(([]:List Check),(([]:List qI),(([]:List qI),(([]:List Switch),(([]:List Switch),(([]:List Param),(([]:List Param),(([]:List xm),(([]:List xm),(([]:List Field),([]:List Field)))))))))))))))).run=some R:=r1
  simp only[zq,T.zh,zo]
  rw[z6 r1]
  cases q:uf ls xD 0 with
  | inl p =>
   obtain⟨n,e⟩:=p
   rw[q]at r2
   obtain⟨Z,rfl⟩:=r2
   rfl
  | inr S =>
   rw[q]at r2
   dsimp only at r2
   rw[r2,Sum.elim_inl]
   unfold stL
   dsimp only
   simp only[z2A,zq,T.zh,zo]
   have hI:(l8 (S.1,(S.2.1,(S.2.2.1,(S.2.2.2.1,(S.2.2.2.2.1,(S.2.2.2.2.2,()))))))).run=some (ff (Ew S)):=mb (Ew S) (hF S q)
   rw[z6 hI]
   cases ff (Ew S)with
   | false=>rw[za (by rfl),z7]; rfl
   | true =>
    rw[z8 (by rfl)]
    simp only[zq,T.zh,zo,z7]
    rfl
theorem Zm{p:UInt8->Bool}{s:ze}(h:s.all p=true)(c:UInt8)(hc:p c=false):c ∉ s:=λhm=>by
 have:=List.all_eq_true.1 h c hm
 rw[hc]at this
 cases this
theorem rB{s:ze}(h:zG s=true):(58:UInt8) ∉ s:=Zm (nf h).2 58 (by decide)
theorem LP{c:UInt8}(h1:uK c=false)(h2:c≠46)(h3:c≠47){t:ze}{p:Nat×Nat}(h:Wq t=some p):c ∉ t:=by
 intro hm
 rw[<- List.takeWhile_append_dropWhile (p:=uK) (l:=t)]at hm
 rcases List.mem_append.1 hm with hm | hm
 ·have nL:(t.takeWhile uK).all uK=true:=List.all_takeWhile
  exact Zm nL c h1 hm
 ·unfold Wq at h
  split at h
  ·cases h
  ·split at h
   ·rename_i q; rw[q]at hm; cases hm
   ·rename_i b q hq
    rw[hq]at hm
    split at h
    ·cases h
    ·rename_i hd
     have hdq:qS q=true:=by
      cases hx:qS q with
      | true=>rfl
      | false=>exact absurd (.inr hx) hd
     rcases List.mem_cons.1 hm with rfl | hm
     ·rw[if_neg h2,if_neg h3]at h; cases h
     ·exact Zm hdq c h1 hm
theorem z2U{c:UInt8}(h1:uK c=false)(h2:c≠46)(h3:c≠47)(h4:c≠45){s:ze}{p:Nat×Nat}(h:tA s=some p):c ∉ s:=by
 unfold tA cV at h
 intro hm
 split at h
 ·rename_i hp
  cases s with
  | nil=>cases hm
  | cons b r =>
   have hb:b=45:=by
    have hp:((45:UInt8)==b&&([]:ze).isPrefixOf r)=true:=hp
    rw[Bool.and_eq_true,beq_iff_eq]at hp
    exact hp.1.symm
   rcases List.mem_cons.1 hm with e | hm
   ·exact h4 (e.trans hb)
   ·exact LP h1 h2 h3 h hm
 ·exact LP h1 h2 h3 h hm
theorem Iv{c:UInt8}(h1:uK c=false)(h2:c≠46)(h3:c≠47)(h4:c≠45){s:ze}{r:Rat}(h:tb s=some r):c ∉ s:=by
 unfold tb at h
 split at h
 ·cases h
 ·cases q:tA s with
  | none=>rw[q]at h; cases h
  | some p=>exact z2U h1 h2 h3 h4 q
theorem cL{x k:ze}(h:zi x k=true){c:UInt8}(hk:c ∉ k):c ∉ x:=by
 rw[xP,decide_eq_true_eq]at h
 rw[h]; exact hk
theorem Z8(c:UInt8)(hc:c≠32):∀ (s cur:ze),c∈cur\/c∈s->∃ x∈xA 32 cur s,c∈x
 | [],cur,h=>by
  rcases h with h | h
  ·unfold xA
   rw[if_neg (λe=>by rw[e]at h; cases h)]
   exact⟨cur,List.mem_singleton.2 rfl,h⟩
  ·cases h
 | b::r,cur,h=>by
  unfold xA
  by_cases hb:b=32
  ·rw[if_pos hb]
   have h:c∈cur\/c∈r:=h.elim .inl λh=>(List.mem_cons.1 h).elim (λe=>absurd (e.trans hb) hc) .inr
   by_cases e:cur=[]
   ·rw[if_pos e]
    refine Z8 c hc r [] (.inr (h.elim (λh => ?_) id))
    rw[e]at h; cases h
   ·rw[if_neg e]
    rcases h with h | h
    ·exact⟨cur,List.mem_cons_self,h⟩
    ·obtain⟨x,h1,h2⟩:=Z8 c hc r [] (.inr h)
     exact⟨x,List.mem_cons_of_mem _ h1,h2⟩
  ·rw[if_neg hb]
   refine Z8 c hc r (cur++[b]) (h.elim (λh=>.inl (List.mem_append_left _ h)) λh=>(List.mem_cons.1 h).elim (λe=>.inl (by rw[e]; simp)) .inr)
theorem Yg:∀ (s cur:ze),cur≠[]->∃ z w,xA 32 cur s=(cur++z)::w
 | [],cur,h=>⟨[],[],by unfold xA; rw[if_neg h,List.append_nil]⟩
 | b::r,cur,h=>by
  unfold xA
  by_cases hb:b=32
  ·rw[if_pos hb,if_neg h]
   exact⟨[],_,by rw[List.append_nil]⟩
  ·rw[if_neg hb]
   obtain⟨z,w,e⟩:=Yg r (cur++[b]) (by simp)
   exact⟨b::z,w,by rw[e,List.append_assoc]; rfl⟩
theorem Hp(r:ze):∀ (h cur:ze),∃ x w,xA 32 cur (h++58::r)=x::w/\((xA 32 cur h=[]/\∃ z,x=58::z)\/∃ a l,xA 32 cur h=a::l/\(x=a\/(l=[]/\∃ z,x=a++58::z)))
 | [],cur=>by
  obtain⟨z,w,e⟩:=Yg r (cur++[58]) (by simp)
  refine⟨(cur++[58])++z,w,?_,?_⟩
  ·show xA 32 cur (58::r)=_
   rw[<- e]
   exact if_neg (by decide)
  ·unfold xA
   by_cases c:cur=[]
   ·exact .inl ⟨if_pos c,z,by rw[c]; rfl⟩
   ·exact .inr ⟨cur,[],if_neg c,.inr ⟨rfl,z,by rw[List.append_assoc]; rfl⟩⟩
 | b::h,cur=>by
  show ∃ x w,xA 32 cur (b::(h++58::r))=_/\_
  unfold xA
  by_cases hb:b=32
  ·rw[if_pos hb,if_pos hb]
   by_cases c:cur=[]
   ·rw[if_pos c,if_pos c]
    exact Hp r h []
   ·rw[if_neg c,if_neg c]
    exact⟨cur,_,rfl,.inr ⟨cur,_,rfl,.inl rfl⟩⟩
  ·rw[if_neg hb,if_neg hb]
   exact Hp r h (cur++[b])
theorem zdm{w:List ze}(h0:(YB w).1=0)(h:zi (wd w 0) [115,119,105,116,99,104]=true):∀ x∈w,(58:UInt8) ∉ x:=by
 unfold YB at h0
 split at h0
 ·rename_i c
  obtain⟨c1,c2,c3⟩:=c
  match w,c1 with
  | [a,b,d],_ =>
   intro x hx
   simp only[List.mem_cons,List.not_mem_nil,or_false]at hx
   rcases hx with rfl | rfl | rfl
   ·exact cL h (by decide)
   ·exact rB c2
   ·rcases c3 with c3 | c3
    ·exact cL c3 (by decide)
    ·exact cL c3 (by decide)
 ·exact absurd h0 (by decide)
theorem z9x{w:List ze}(h0:(WH w).1=0)(h:zi (wd w 0) [112,97,114,97,109]=true):∀ x∈w,(58:UInt8) ∉ x:=by
 unfold WH at h0
 split at h0
 ·rename_i c
  obtain⟨c1,c2⟩:=c
  match w,c1 with
  | [a,b,d],_ =>
   cases hd:tb (wd [a,b,d] 2)with
   | none=>rw[hd]at h0; exact absurd h0 (show ¬ (2:Int)=0 by decide)
   | some v =>
    intro x hx
    simp only[List.mem_cons,List.not_mem_nil,or_false]at hx
    rcases hx with rfl | rfl | rfl
    ·exact cL h (by decide)
    ·exact rB c2
    ·exact Iv (by decide) (by decide) (by decide) (by decide) hd
 ·exact absurd h0 (by decide)
theorem z9S{w:List ze}(h0:(V6 w).1=0)(h:zi (wd w 0) [112,97,103,101]=true):∀ x∈w,(58:UInt8) ∉ x:=by
 unfold V6 at h0
 split at h0
 ·rename_i c
  obtain⟨c1,c2,c3⟩:=c
  unfold Vy at c3
  split at c3
  ·rename_i d
   match w,d with
   | [a,b],_ =>
    intro x hx
    simp only[List.mem_cons,List.not_mem_nil,or_false]at hx
    rcases hx with rfl | rfl
    ·exact cL h (by decide)
    ·exact rB c2
  ·split at c3
   ·rename_i d
    obtain⟨d1,d2,d3⟩:=d
    match w,d1 with
    | [a,b,e,f],_ =>
     intro x hx
     simp only[List.mem_cons,List.not_mem_nil,or_false]at hx
     rcases hx with rfl | rfl | rfl | rfl
     ·exact cL h (by decide)
     ·exact rB c2
     ·exact cL (x:=x) d2 (by decide)
     ·exact rB d3
   ·cases c3
 ·exact absurd h0 (by decide)
theorem Rm{w:List ze}{k:Int}(h:iB w=some k):∀ x∈w,(58:UInt8) ∉ x:=by
 unfold iB at h
 split at h
 ·intro x hx; cases hx
 ·rename_i a c
  split at h
  ·rename_i d
   intro x hx
   simp only[List.mem_cons,List.not_mem_nil,or_false]at hx
   rcases hx with rfl | rfl
   ·exact cL d.1 (by decide)
   ·intro hm
    have:=List.mem_singleton.1 hm
    subst this
    exact absurd d.2.2 (by decide)
  ·cases h
 ·cases h
theorem z8S{np:Nat}{w:List ze}(h0:(Uz np w).1=0)(h:zi (wd w 0) [102,105,101,108,100]=true):∀ x∈w,(58:UInt8) ∉ x:=by
 unfold Uz at h0
 split at h0
 ·rename_i c
  obtain⟨c1,c2,c3⟩:=c
  cases hd:iB (yb w)with
  | none=>rw[hd]at h0; exact absurd h0 (show ¬ (2:Int)=0 by decide)
  | some v =>
   have hs:=Rm hd
   match w,c1 with
   | a::b::t,_ =>
    intro x hx
    rcases List.mem_cons.1 hx with rfl | hx
    ·exact cL h (by decide)
    ·rcases List.mem_cons.1 hx with rfl | hx
     ·exact rB c2
     ·unfold yb at hs
      rw[show List.drop 2 (a::b::t)=t from rfl]at hs
      cases t with
      | nil=>cases hx
      | cons y t =>
       cases q:eJ (y::t)with
       | true =>
        rw[q,if_pos rfl]at hs
        rcases List.mem_cons.1 hx with rfl | hx
        ·exact cL (show zi x [109,117,115,116]=true from q) (by decide)
        ·exact hs x hx
       | false =>
        rw[q,if_neg (by decide)]at hs
        exact hs x hx
 ·exact absurd h0 (by decide)
theorem z7k(w:List ze):(YB w).1≠0->YB w=(2,xD):=by unfold YB; split; exact λh=>absurd rfl h; exact λ_=>rfl
theorem z5Z(w:List ze):(WH w).1≠0->WH w=(2,xD):=by
 unfold WH; split
 ·split
  ·exact λh=>absurd rfl h
  ·exact λ_=>rfl
 ·exact λ_=>rfl
theorem z6N(w:List ze):(V6 w).1≠0->V6 w=(2,xD):=by unfold V6; split; exact λh=>absurd rfl h; exact λ_=>rfl
theorem z6O(np:Nat)(w:List ze):(Uz np w).1≠0->Uz np w=(2,xD):=by
 unfold Uz; split
 ·split
  ·exact λh=>absurd rfl h
  ·exact λ_=>rfl
 ·exact λ_=>rfl
def z3w(np:Nat)(s:ze):Int×gJ:=if(wU s [58]).2.2=true then(if zi (wd (xA 32 [] (wU s [58]).1) 0) [99,104,101,99,107]=true then DC np (xA 32 [] (wU s [58]).1) (wU s [58]).2.1
  else if zi (wd (xA 32 [] (wU s [58]).1) 0) [114,117,108,101]=true then K2 (xA 32 [] (wU s [58]).1) (wU s [58]).2.1 else(2,xD))else(2,xD)
def PN(np:Nat)(s:ze)(w:List ze):Int×gJ:=if zi (wd w 0) [115,119,105,116,99,104]=true then YB w else if zi (wd w 0) [112,97,114,97,109]=true then WH w
 else if zi (wd w 0) [112,97,103,101]=true then V6 w else if zi (wd w 0) [102,105,101,108,100]=true then Uz np w
 else if zi (wd w 0) [99,104,101,99,107]=true\/zi (wd w 0) [114,117,108,101]=true then z3w np s else(2,xD)
theorem Pm(np:Nat)(a:ze)(rest:ze):DC np [a] rest=(2,xD):=by unfold DC; exact if_neg (λh=>absurd h.1 (by simp))
theorem PF(a:ze)(rest:ze):K2 [a] rest=(2,xD):=by unfold K2; exact if_neg (λh=>absurd h.1 (by simp))
theorem MJ(np:Nat)(s:ze)(h:xA 32 [] s=[]):wz np s=(0,xD):=by
 have h58:(58:UInt8) ∉ s:=λhm=>by
  obtain⟨x,hx,_⟩:=Z8 58 (by decide) s [] (.inr hm)
  rw[h]at hx; cases hx
 unfold wz
 rw[eY 58 s h58,h]
 rfl
theorem dy(np:Nat)(s:ze)(x:ze)(w:List ze):PN np s (x::w)=if zi x [115,119,105,116,99,104]=true then YB (x::w)else if zi x [112,97,114,97,109]=true then WH (x::w)
 else if zi x [112,97,103,101]=true then V6 (x::w)else if zi x [102,105,101,108,100]=true then Uz np (x::w)
 else if zi x [99,104,101,99,107]=true\/zi x [114,117,108,101]=true then z3w np s else(2,xD):=rfl
theorem Dd(np:Nat)(s:ze)(x:ze)(w:List ze)(h:(58:UInt8)∈x):PN np s (x::w)=(2,xD):=by
 rw[dy,if_neg (λk=>cL k (by decide) h),if_neg (λk=>cL k (by decide) h),if_neg (λk=>cL k (by decide) h),if_neg (λk=>cL k (by decide) h),
  if_neg (λk=>k.elim (λk=>cL k (by decide) h) (λk=>cL k (by decide) h))]
theorem ct{x a b:ze}(h:zi x a=true)(Wt:a≠b):¬ (zi x b=true):=λk=>by
 rw[xP,decide_eq_true_eq]at h k
 exact Wt (h.symm.trans k)
theorem PI(np:Nat)(s:ze)(x:ze)(w:List ze)(h:xA 32 [] s=x::w):wz np s=if Qt x=true then(0,xD)else PN np s (x::w):=by
 by_cases h58:(58:UInt8)∈s
 ·obtain⟨a,b,rfl,ha⟩:=List.eq_append_cons_of_mem h58
  have Qz:=pN 58 a b ha
  have hl:wz np (a++58::b)=lF np (xA 32 [] a) b true:=by unfold wz; rw[Qz]
  obtain⟨x',w',e,hc⟩:=Hp b a []
  rw[h]at e
  injection e with e1 e2
  subst e1 e2
  obtain⟨y,hy,E2⟩:=Z8 58 (by decide) (a++58::b) [] (.inr (by simp))
  rw[h]at hy
  rw[hl]
  rcases hc with⟨c1,z,rfl⟩ | ⟨a0,l,c1,c2⟩
  ·rw[c1,if_neg (show ¬ (Qt (58::z)=true) by simp[Qt]),Dd _ _ _ _ (by simp)]
   rfl
  ·have vJ:a0≠[]:=(Qi 32 a [] a0 (by rw[c1]; exact List.mem_cons_self)).1
   rw[c1,wu,if_pos rfl]
   rcases c2 with rfl | ⟨rfl,z,rfl⟩
   ·split
    ·rfl
    ·rw[dy]
     by_cases k1:zi x [115,119,105,116,99,104]=true
     ·rw[if_pos k1,if_neg (ct k1 (by decide)),if_neg (ct k1 (by decide)),z7k (x::w) λh0=>zdm (w:=x::w) h0 k1 y hy E2]
     ·rw[if_neg k1]
      by_cases k2:zi x [112,97,114,97,109]=true
      ·rw[if_pos k2,if_neg (ct k2 (by decide)),if_neg (ct k2 (by decide)),z5Z (x::w) λh0=>z9x (w:=x::w) h0 k2 y hy E2]
      ·rw[if_neg k2]
       by_cases k3:zi x [112,97,103,101]=true
       ·rw[if_pos k3,if_neg (ct k3 (by decide)),if_neg (ct k3 (by decide)),z6N (x::w) λh0=>z9S (w:=x::w) h0 k3 y hy E2]
       ·rw[if_neg k3]
        by_cases k4:zi x [102,105,101,108,100]=true
        ·rw[if_pos k4,if_neg (ct k4 (by decide)),if_neg (ct k4 (by decide)),z6O np (x::w) λh0=>z8S (w:=x::w) h0 k4 y hy E2]
        ·rw[if_neg k4]
         unfold z3w
         rw[Qz]
         dsimp only
         rw[if_pos rfl,c1]
         show _=if zi x _=true\/_ then(if zi x _=true then _ else if zi x _=true then _ else _)else _
         by_cases k5:zi x [99,104,101,99,107]=true
         ·rw[if_pos k5,if_pos (.inl k5)]
         ·rw[if_neg k5]
          by_cases k6:zi x [114,117,108,101]=true
          ·rw[if_pos k6,if_pos (.inr k6)]
          ·rw[if_neg k6,if_neg (λk=>k.elim k5 k6)]
   ·have hh:Qt (a0++58::z)=Qt a0:=by
     cases a0 with
     | nil=>exact absurd rfl vJ
     | cons=>rfl
    rw[hh,Dd _ _ _ _ (by simp),Pm,PF]
    split
    ·rfl
    ·split
     ·rfl
     ·split<;>rfl
 ·unfold wz PN z3w
  rw[eY 58 s h58]
  dsimp only
  rw[h,wu,if_neg (show ¬ (false=true) by decide),if_neg (show ¬ (false=true) by decide)]
  split
  ·rfl
  ·show _=(if zi x _=true then _ else if zi x _=true then _ else if zi x _=true then _ else if zi x _=true then _ else _)
   split
   ·rfl
   ·split
    ·rfl
    ·split
     ·rfl
     ·split
      ·rfl
      ·split<;>rfl
theorem Yx(c b:UInt8)(r:ze):js c (b::r)=if b=c then[]::js c r else NC b (js c r):=rfl
theorem Rq(c:UInt8):∀ (l r:ze),(∀ b∈l,b≠c)->js c (l++c::r)=l::js c r
 | [],r,_=>by
  show js c (c::r)=_
  rw[Yx,if_pos rfl]
 | b::l,r,h=>by
  show js c (b::(l++c::r))=_
  rw[Yx,if_neg (h b List.mem_cons_self),Rq c l r λx hx=>h x (List.mem_cons_of_mem _ hx)]
  rfl
def iD:Nat->ze
 | 0=>[]
 | n+1=>32::iD n
theorem F6:∀ (n:Nat) (r:ze),yl (iD n++r)=yl r
 | 0,_=>rfl
 | n+1,r=>by show yl (32::(iD n++r))=_; rw[Je,F6 n r]
theorem z1A(n:Nat){r:ze}(h:nK r=true):nK (iD n++r)=true:=by
 cases n with
 | zero=>exact h
 | succ n=>rfl
def sgC(p s:Bool):UInt8:=bif p then(bif s then 47 else 42)else(bif s then 45 else 43)
def sgK(p s:Bool):Int:=bif p then(bif s then 6 else 5)else(bif s then 4 else 3)
def OL(p:Bool):List Bool->ze
 | []=>[]
 | s::r=>sgC p s::98::OL p r
def sgE(p:Bool):Expr->List Bool->Expr
 | e,[]=>e
 | e,s::r=>sgE p (b9 (sgK p s) [e,iO [98]]) r
theorem WO(p:Bool)(l:List Bool):nK (OL p l)=true:=by
 cases l with
 | nil=>rfl
 | cons s r=>cases p<;>cases s<;>rfl
theorem Gs(c:UInt8)(hc:XJ c=true)(d:Nat)(l:Bool)(q:ze)(hq:nK q=true):SF d l (c::q) (.ok (iO [c]) q l):=by
 have h:=TS (d:=d) (l:=l) (p0 (SV hc):yl (c::q)=c::q) hc
 have hn:zG [c]=true:=by
  unfold zG
  show(true&&(XJ c&&(wX c&&true)))=true
  rw[hc,DM hc]; rfl
 have:=YL hn l hq
 have e:El (c::q) l=.ok (.mk 2 zR [c] []) q l:=this
 rw[e]at h
 exact h
theorem Me:∀ (l:List Bool) (e:Expr),RP 0 e (OL true l) false (.ok (sgE true e l) [] false)
 | [],e=>pU rfl
 | s::r,e=>by
  have MW:xT [42,47] (OL true (s::r))=some (sgC true s,98::OL true r):=by cases s<;>rfl
  refine L5 MW (Gs 98 (by decide) 0 false _ (WO true r)) ?_
  have:(if sgC true s=42 then(5:Int)else 6)=sgK true s:=by cases s<;>rfl
  rw[this]
  exact Me r _
theorem OX:∀ (l:List Bool) (e:Expr),RS 0 e (OL false l) false (.ok (sgE false e l) [] false)
 | [],e=>WT rfl
 | s::r,e=>by
  have MW:xT [43,45] (OL false (s::r))=some (sgC false s,98::OL false r):=by cases s<;>rfl
  have kK:xT [42,47] (OL false r)=none:=by
   cases r with
   | nil=>rfl
   | cons t r=>cases t<;>rfl
  refine Ib MW (KD (Gs 98 (by decide) 0 false _ (WO false r)) (pU kK)) ?_
  have:(if sgC false s=43 then(3:Int)else 4)=sgK false s:=by cases s<;>rfl
  rw[this]
  exact Bq (OX r _)
theorem z4w(c:UInt8)(hc:XJ c=true)(d:Nat)(hd:d<32):xM d (iO [c])=true:=by
 refine VY hd ?_ rfl
 show(true&&(true&&(true&&(XJ c&&(wX c&&true)))))=true
 rw[hc,DM hc]; rfl
theorem TY(p:Bool):∀ (l:List Bool) (e:Expr) (d:Nat),d+l.length<32->xM (d+l.length) e=true->xM d (sgE p e l)=true
 | [],_,_,_,h=>h
 | s::r,e,d,hd,h=>by
  simp only[List.length_cons]at hd h
  refine TY p r _ d (by omega) (VY (by omega) ?_ ?_)
  ·cases p<;>cases s<;>rfl
  ·show(xM (d+r.length+1) e&&(xM (d+r.length+1) (iO [98])&&true))=true
   rw[show d+r.length+1=d+(r.length+1) by omega,h,z4w 98 (by decide) _ (by omega)]; rfl
theorem TF(p:Bool):∀ (l:List Bool) (e:Expr),xw (sgE p e l)=xw e+2*l.length
 | [],_=>rfl
 | s::r,e=>by
  show xw (sgE p _ r)=_
  rw[TF p r,nd2,show xw (iO [98])=1 from rfl,List.length_cons]; omega
theorem F0(p:Bool)(l:List Bool)(hl:l.length<=28):qu (97::OL p l)=(sgE p (iO [97]) l,((0:Int),(0:Int))):=by
 have hs:SS 0 false (97::OL p l) (.ok (sgE p (iO [97]) l) [] false):=by
  cases p with
  | true=>exact Mj (KD (Gs 97 (by decide) 0 false _ (WO true l)) (Me l _)) (WT rfl)
  | false =>
   have kK:xT [42,47] (OL false l)=none:=by
    cases l with
    | nil=>rfl
    | cons t r=>cases t<;>rfl
   exact Mj (KD (Gs 97 (by decide) 0 false _ (WO false l)) (pU kK)) (Bq (OX l _))
 have hI:KQ (sgE p (iO [97]) l)=true:=by
  unfold KQ
  rw[TF,TY p l (iO [97]) 0 (by omega) (z4w 97 (by decide) _ (by omega)),decide_eq_true (by rw[show xw (iO [97])=1 from rfl]; omega)]
  rfl
 unfold qu
 rw[PC hs]
 unfold Bx oF
 dsimp only
 rw[if_neg (by decide),hI,if_neg (by simp)]
def jc{α:Type}(p:α->α->Bool):List α->List α->Bool
 | [],[]=>true
 | x::l,y::m=>p x y&&jc p l m
 | _,_=>false
theorem dZ{α:Type}(p:α->α->Bool):∀ {l m:List α},l.length≠m.length->jc p l m=false
 | [],[],h=>absurd rfl h
 | [],_::_,_=>rfl
 | _::_,[],_=>rfl
 | x::l,y::m,h=>by
  show(p x y&&jc p l m)=false
  rw[dZ p (l:=l) (m:=m) (λe=>h (by simp[e])),Bool.and_false]
theorem bB{α:Type}(p:α->α->Bool):∀ {l:List α},(∀ x∈l,p x x=true)->jc p l l=true
 | [],_=>rfl
 | x::l,h=>by
  show(p x x&&jc p l l)=true
  rw[h x List.mem_cons_self,bB p λy hy=>h y (List.mem_cons_of_mem _ hy)]; rfl
theorem dn{α:Type}(l m:List α)(d:α)(p:α->α->Bool)(hlen:l.length=m.length){r:Int->T (Int⊕(Unit⊕Bool))}
  (step:∀ (k:Nat) (x y:α),k<l.length->nth l (k:Int) d=x->nth m (k:Int) d=y->x∈l->y∈m->(r (k:Int)).run=some (if p x y=true then .inl ((k+1:Nat):Int)else .inr (.inr false)))
  (done:(r (l.length:Int)).run=some (.inr (.inl ()))):(T.loop r 0).run=some (if jc p l m=true then .inl ()else .inr false):=by
 have key:∀ (n k:Nat),k+n=l.length->(T.loop r (k:Int)).run=some (if jc p (l.drop k) (m.drop k)=true then .inl ()else .inr false):=by
  intro n
  induction n with
  | zero =>
   intro k hk
   have:k=l.length:=by omega
   subst this
   rw[List.drop_length,List.drop_of_length_le (by omega)]
   exact qz done
  | succ n ih =>
   intro k hk
   have h1:k<l.length:=by omega
   have h2:k<m.length:=by omega
   rw[List.drop_eq_getElem_cons h1,List.drop_eq_getElem_cons h2]
   have hs:=step k l[k] m[k] h1 (kO h1 d) (kO h2 d) (List.getElem_mem h1) (List.getElem_mem h2)
   show _=some (if(p l[k] m[k]&&jc p (l.drop (k+1)) (m.drop (k+1)))=true then _ else _)
   cases hp:p l[k] m[k]with
   | true =>
    rw[hp,if_pos rfl]at hs
    rw[Bool.true_and]
    exact(vp hs).trans (ih (k+1) (by omega))
   | false =>
    rw[hp,if_neg (by decide)]at hs
    rw[Bool.false_and,if_neg (by decide)]
    exact qz hs
 have:=key l.length 0 (by omega)
 rwa [List.drop_zero,List.drop_zero]at this
def JQ(x y:Switch):Bool:=zi x.1 y.1&&((x.2.1==y.2.1)&&true)
def J4(x y:Param):Bool:=zi x.1 y.1&&c7 x.2.1 y.2.1
def Kk(x y:xm):Bool:=zi x.1 y.1&&(zi x.2.1 y.2.1&&true)
def JY(x y:Field):Bool:=zi x.1 y.1&&((x.2.1==y.2.1)&&((x.2.2.1==y.2.2.1)&&((x.2.2.2.1==y.2.2.2.1)&&true)))
def ZS(x y:qI):Bool:=zi x.1 y.1&&((x.2.1==y.2.1)&&(zi x.2.2.1 y.2.2.1&&(sameE x.2.2.2.1 y.2.2.2.1&&sameE x.2.2.2.2.1 y.2.2.2.2.1)))
def Xc(x y:Check):Bool:=zi x.1 y.1&&((x.2.1==y.2.1)&&((x.2.2.1==y.2.2.1)&&(sameE x.2.2.2.1 y.2.2.2.1&&sameE x.2.2.2.2.1 y.2.2.2.2.1)))
def Yd(f g:Form):Bool:=jc JQ f.1 g.1&&(jc J4 f.2.1 g.2.1&&(jc Kk f.2.2.1 g.2.2.1&&(jc JY f.2.2.2.1 g.2.2.2.1&&(jc ZS f.2.2.2.2.1 g.2.2.2.2.1&&jc Xc f.2.2.2.2.2.1 g.2.2.2.2.2.1))))
theorem K0(a b:List qI)(ha:a.length<=1000)(h1:∀ x∈a,wm x.2.2.2.1/\wm x.2.2.2.2.1)(h2:∀ x∈b,wm x.2.2.2.1/\wm x.2.2.2.2.1):(ga a b).run=some (jc ZS a b):=by
 unfold ga
 by_cases c:a.length=b.length
 ·have key:(fS a b 0).run=some (if jc ZS a b=true then .inl ()else .inr false):=by
   refine dn (r:=ue a b) a b (zk q9) ZS c (λk x y hk hx hy mx my => ?_) ?_
   ·obtain⟨x1,x2⟩:=h1 x mx
    obtain⟨y1,y2⟩:=h2 y my
    have i1:=qf hk
    have i2:qt (k:Int) b.length:=qf (by omega)
    unfold ue
    rw[za (uL hk),hx,hy]
    refine(z6 (a := !ZS x y) ?_ _).trans ?_
    ·rw[zb i1,zb i2]
     unfold ZS
     cases zi x.1 y.1 with
     | false=>rw[za (by rfl),z7]; rfl
     | true =>
      rw[z8 (by rfl),zb i1,zb i2,bne]
      cases(x.2.1==y.2.1)with
      | false=>rw[za (by rfl),z7]; rfl
      | true =>
       rw[z8 (by rfl),zb i1,zb i2]
       cases zi x.2.2.1 y.2.2.1 with
       | false=>rw[za (by rfl),z7]; rfl
       | true =>
        rw[z8 (by rfl),zb i1,zb i2,z6 (bK _ _ x1.2.2 y1.2.2 (by have:=x1.2.1; omega))]
        cases sameE x.2.2.2.1 y.2.2.2.1 with
        | false=>rw[za (by rfl),z7]; rfl
        | true =>
         rw[z8 (by rfl),zb i1,zb i2,z6 (bK _ _ x2.2.2 y2.2.2 (by have:=x2.2.1; omega)),z7]; rfl
    ·cases ZS x y with
     | false=>rw[za (by rfl),z7]; rfl
     | true=>rw[z8 (by rfl),z7,ll k _ hk (by omega)]; rfl
   ·unfold ue
    rw[z8 (kf _),z7]
  rw[z8 (by rw[c,bne_self_eq_false]),z6 key]
  cases jc ZS a b<;>rfl
 ·rw[za (by rw[bne_iff_ne]; omega),z7,dZ ZS c]
theorem VR(a b:List Check)(ha:a.length<=1000)(h1:∀ x∈a,wm x.2.2.2.1/\wm x.2.2.2.2.1)(h2:∀ x∈b,wm x.2.2.2.1/\wm x.2.2.2.2.1):(yf a b).run=some (jc Xc a b):=by
 unfold yf
 by_cases c:a.length=b.length
 ·have key:(eB a b 0).run=some (if jc Xc a b=true then .inl ()else .inr false):=by
   refine dn (r:=vy a b) a b (zk zT) Xc c (λk x y hk hx hy mx my => ?_) ?_
   ·obtain⟨x1,x2⟩:=h1 x mx
    obtain⟨y1,y2⟩:=h2 y my
    have i1:=qf hk
    have i2:qt (k:Int) b.length:=qf (by omega)
    unfold vy
    rw[za (uL hk),hx,hy]
    refine(z6 (a := !Xc x y) ?_ _).trans ?_
    ·rw[zb i1,zb i2]
     unfold Xc
     cases zi x.1 y.1 with
     | false=>rw[za (by rfl),z7]; rfl
     | true =>
      rw[z8 (by rfl),zb i1,zb i2,bne]
      cases(x.2.1==y.2.1)with
      | false=>rw[za (by rfl),z7]; rfl
      | true =>
       rw[z8 (by rfl),zb i1,zb i2,bne]
       cases(x.2.2.1==y.2.2.1)with
       | false=>rw[za (by rfl),z7]; rfl
       | true =>
        rw[z8 (by rfl),zb i1,zb i2,z6 (bK _ _ x1.2.2 y1.2.2 (by have:=x1.2.1; omega))]
        cases sameE x.2.2.2.1 y.2.2.2.1 with
        | false=>rw[za (by rfl),z7]; rfl
        | true =>
         rw[z8 (by rfl),zb i1,zb i2,z6 (bK _ _ x2.2.2 y2.2.2 (by have:=x2.2.1; omega)),z7]; rfl
    ·cases Xc x y with
     | false=>rw[za (by rfl),z7]; rfl
     | true=>rw[z8 (by rfl),z7,ll k _ hk (by omega)]; rfl
   ·unfold vy
    rw[z8 (kf _),z7]
  rw[z8 (by rw[c,bne_self_eq_false]),z6 key]
  cases jc Xc a b<;>rfl
 ·rw[za (by rw[bne_iff_ne]; omega),z7,dZ Xc c]
theorem JS(f g:Form)(hf:FS f)(hg:FS g):(rQ f g).run=some (Yd f g):=by
 have hn:=hf.n
 unfold rQ Yd
 by_cases c1:f.1.length=g.1.length
 case neg=>rw[za (by rw[bne_iff_ne.2 (show((f.1.length:Nat):Int)≠(g.1.length:Int) by omega)]; rfl),z7,dZ JQ c1]; rfl
 by_cases c2:f.2.1.length=g.2.1.length
 case neg=>rw[za (by rw[bne_iff_ne.2 (show((f.2.1.length:Nat):Int)≠(g.2.1.length:Int) by omega),Bool.true_or,Bool.or_true]),z7,dZ J4 c2,Bool.false_and,Bool.and_false]
 by_cases c3:f.2.2.1.length=g.2.2.1.length
 case neg=>rw[za (by rw[bne_iff_ne.2 (show((f.2.2.1.length:Nat):Int)≠(g.2.2.1.length:Int) by omega),Bool.true_or,Bool.or_true,Bool.or_true]),z7,dZ Kk c3,Bool.false_and,Bool.and_false,Bool.and_false]
 by_cases c4:f.2.2.2.1.length=g.2.2.2.1.length
 case neg=>rw[za (by rw[bne_iff_ne.2 (show((f.2.2.2.1.length:Nat):Int)≠(g.2.2.2.1.length:Int) by omega),Bool.or_true,Bool.or_true,Bool.or_true]),z7,dZ JY c4,Bool.false_and,Bool.and_false,Bool.and_false,Bool.and_false]
 have l0:(ZH f g 0).run=some (if jc JQ f.1 g.1=true then .inl ()else .inr false):=by
  refine dn (r:=gU f g) f.1 g.1 (zk zw) JQ c1 (λk x y hk hx hy mx my => ?_) ?_
  ·unfold gU
   rw[za (uL hk),zb (qf hk),zb (qf (by omega)),hx,hy]
   show(T.ite (!JQ x y) _ _).run=_
   cases JQ x y with
   | false=>rw[za (by rfl),z7]; rfl
   | true=>rw[z8 (by rfl),z7,ll k _ hk (by omega)]; rfl
  ·unfold gU
   rw[z8 (kf _),z7]
 have l1:(Z9 f g 0).run=some (if jc J4 f.2.1 g.2.1=true then .inl ()else .inr false):=by
  refine dn (r:=gz f g) f.2.1 g.2.1 (zk zM) J4 c2 (λk x y hk hx hy mx my => ?_) ?_
  ·unfold gz
   have i2:qt (k:Int) g.2.1.length:=qf (by omega)
   rw[za (uL hk),hx,hy]
   refine(z6 (a := !J4 x y) ?_ _).trans ?_
   ·rw[zb (qf hk),zb i2]
    unfold J4
    cases zi x.1 y.1 with
    | false=>rw[za (by rfl),z7]; rfl
    | true=>rw[z8 (by rfl),zb (qf hk),zb i2,z6 (sn _ _ (hf.p x mx).2 (hg.p y my).2),z7]; rfl
   ·cases J4 x y with
    | false=>rw[za (by rfl),z7]; rfl
    | true=>rw[z8 (by rfl),z7,ll k _ hk (by omega)]; rfl
  ·unfold gz
   rw[z8 (kf _),z7]
 have l2:(ZY f g 0).run=some (if jc Kk f.2.2.1 g.2.2.1=true then .inl ()else .inr false):=by
  refine dn (r:=gE f g) f.2.2.1 g.2.2.1 (zk zY) Kk c3 (λk x y hk hx hy mx my => ?_) ?_
  ·unfold gE
   rw[za (uL hk),zb (qf hk),zb (qf (by omega)),hx,hy]
   show(T.ite (!Kk x y) _ _).run=_
   cases Kk x y with
   | false=>rw[za (by rfl),z7]; rfl
   | true=>rw[z8 (by rfl),z7,ll k _ hk (by omega)]; rfl
  ·unfold gE
   rw[z8 (kf _),z7]
 have l3:(Zf f g 0).run=some (if jc JY f.2.2.2.1 g.2.2.2.1=true then .inl ()else .inr false):=by
  refine dn (r:=yX f g) f.2.2.2.1 g.2.2.2.1 (zk zN) JY c4 (λk x y hk hx hy mx my => ?_) ?_
  ·unfold yX
   rw[za (uL hk),zb (qf hk),zb (qf (by omega)),hx,hy]
   show(T.ite (!JY x y) _ _).run=_
   cases JY x y with
   | false=>rw[za (by rfl),z7]; rfl
   | true=>rw[z8 (by rfl),z7,ll k _ hk (by omega)]; rfl
  ·unfold yX
   rw[z8 (kf _),z7]
 rw[z8 (by rw[c1,c2,c3,c4]; simp),z6 l0]
 cases jc JQ f.1 g.1 with
 | false=>rfl
 | true =>
  rw[if_pos rfl,Sum.elim_inl,z6 l1,Bool.true_and]
  cases jc J4 f.2.1 g.2.1 with
  | false=>rfl
  | true =>
   rw[if_pos rfl,Sum.elim_inl,z6 l2,Bool.true_and]
   cases jc Kk f.2.2.1 g.2.2.1 with
   | false=>rfl
   | true =>
    rw[if_pos rfl,Sum.elim_inl,z6 l3,Bool.true_and]
    cases jc JY f.2.2.2.1 g.2.2.2.1 with
    | false=>rfl
    | true =>
     rw[if_pos rfl,Sum.elim_inl,z6 (K0 _ _ (by omega) (λx hx=>(hf.r x hx).2.2) (λx hx=>(hg.r x hx).2.2)),Bool.true_and]
     cases jc ZS f.2.2.2.2.1 g.2.2.2.2.1 with
     | false=>rfl
     | true=>rw[zj,z6 (VR _ _ (by omega) (λx hx=>(hf.c x hx).2) (λx hx=>(hg.c x hx).2)),z7]; rfl
theorem FC(a:Rat):c7 a a=true:=by
 have:=yo (.mk 0 a [] [])
 have h:((0:Int)==0&&(zi ([]:ze) []&&(c7 a a&&sameEs [] [])))=true:=this
 simp only[Bool.and_eq_true]at h
 exact h.2.2.1
theorem DK(f:Form):Yd f f=true:=by
 unfold Yd
 rw[bB JQ,bB J4,bB Kk,bB JY,bB ZS,bB Xc]
 ·rfl
 all_goals intro x _
 ·unfold Xc; rw[qx,beq_self_eq_true,beq_self_eq_true,yo,yo]; rfl
 ·unfold ZS; rw[qx,beq_self_eq_true,qx,yo,yo]; rfl
 ·unfold JY; rw[qx,beq_self_eq_true,beq_self_eq_true,beq_self_eq_true]; rfl
 ·unfold Kk; rw[qx,qx]; rfl
 ·unfold J4; rw[qx,FC]; rfl
 ·unfold JQ; rw[qx,beq_self_eq_true]; rfl
def fQ:Expr:=.mk 1 (nN [50]) [] []
theorem D9(d:Nat)(hd:d<32):xM d fQ=true:=by
 have h:uX (.mk 1 (nN [50]) [] [])=true:=by
  unfold uX
  show((((0:Nat):Int)==fp 1)&&(if(1:Int)=1 then ug (nN [50])&&zi [] []else _))=true
  rw[if_pos rfl,z1N]
  rfl
 show(decide (d<32)&&(uX (.mk 1 (nN [50]) [] [])&&uC (d+1) []))=true
 rw[h,decide_eq_true hd]; rfl
theorem z0e:KQ fQ=true:=by
 unfold KQ
 rw[D9 0 (by decide)]
 rfl
theorem z1j:prE fQ=[50]:=by
 show(qG (norm (nN [50])).1 (nv (norm (nN [50])).2.1) (nv (norm (nN [50])).2.2.1) 0 61).1=[50]
 rw[TP,Tq]
 show(qG false 2 1 0 61).1=[50]
 unfold qG
 rw[if_pos (by decide)]
 show Wz false++KW (pr 2) 0=[50]
 unfold KW pr
 rw[if_pos rfl,if_neg (by decide),ir (by decide),show 2 / 10=0 from rfl,dM]
 rfl
theorem z3M:qu [97]=(iO [97],((0:Int),(0:Int))):=F0 true [] (by decide)
theorem z30:qu [50]=(fQ,((0:Int),(0:Int))):=by
 have h:mI zR [50]=.ok fQ [] false:=by kernel_rfl
 unfold qu
 rw[h]
 unfold Bx oF
 dsimp only
 rw[if_neg (by decide),z0e,if_neg (by simp)]
theorem z0j:qQ [97,61,50]=(iO [97],(fQ,((0:Int),(0:Int)))):=by
 have h:yH [97,61,50]=some ([97],0,[50]):=rfl
 unfold qQ
 rw[h]
 dsimp only
 rw[z3M,z30]
 rfl
def knS:ze:=[112,97,103,101,32,112,10,102,105,101,108,100,32,32,97,32,109,117,115,116,10,114,117,108,101,32,119,101,97,107,32,114,58,97,61,50,10]
def knF:gJ:=([],[],[([112],([],()))],[([97],(0,(true,(0,()))))],[([114],(3,([],(iO [97],(fQ,())))))],[])
theorem CE:uf (js 10 knS) xD 0=.inr knF:=by
 have e:js 10 knS=[[112,97,103,101,32,112],[102,105,101,108,100,32,32,97,32,109,117,115,116],[114,117,108,101,32,119,101,97,107,32,114,58,97,61,50],[]]:=by decide +kernel
 have l1:wz 0 [112,97,103,101,32,112]=(0,[],[],[([112],([],()))],[],[],[]):=rfl
 have l2:wz 1 [102,105,101,108,100,32,32,97,32,109,117,115,116]=(0,[],[],[],[([97],(0,(true,(0,()))))],[],[]):=rfl
 have l3:wz 1 [114,117,108,101,32,119,101,97,107,32,114,58,97,61,50]=(0,[],[],[],[],[([114],(3,([],(iO [97],(fQ,())))))],[]):=by
  have:wz 1 [114,117,108,101,32,119,101,97,107,32,114,58,97,61,50]=K2 [[114,117,108,101],[119,101,97,107],[114]] [97,61,50]:=rfl
  rw[this]
  unfold K2
  rw[z0j]
  rfl
 have l4:wz 1 []=(0,xD):=rfl
 rw[e]
 unfold uf
 rw[show wz xD.2.2.1.length [112,97,103,101,32,112]=_ from l1,if_pos rfl]
 unfold uf
 rw[show wz (bn xD (([],[],[([112],([],()))],[],[],[]):gJ)).2.2.1.length [102,105,101,108,100,32,32,97,32,109,117,115,116]=_ from l2,if_pos rfl]
 unfold uf
 rw[show wz (bn (bn xD (([],[],[([112],([],()))],[],[],[]):gJ)) (([],[],[],[([97],(0,(true,(0,()))))],[],[]):gJ)).2.2.1.length [114,117,108,101,32,119,101,97,107,32,114,58,97,61,50]=_ from l3,if_pos rfl]
 rfl
theorem D2{s:ze}(h:s.length<=600){S:gJ}(hl:uf (js 10 s) xD 0=.inr S):FS (Ew S):=by
 obtain⟨g,ht⟩:=JD _ _ _ _ hl z4H
 have:=GC 10 s
 have h0:Lp xD=0:=rfl
 exact⟨by rw[h0]at ht; unfold Lp at ht; show S.1.length+S.2.1.length+S.2.2.1.length+S.2.2.2.1.length+S.2.2.2.2.1.length+S.2.2.2.2.2.length<=601; omega,g.s,g.p,g.g,g.d,g.r,g.c⟩
def knT:ze:=[112,97,103,101,32,112,10,102,105,101,108,100,32,97,32,109,117,115,116,10,114,117,108,101,32,119,101,97,107,32,114,32,58,32,97,32,61,32,50,10]
theorem Ic:Nx (Ew knF)=knT:=by
 have h1:Ez (iO [97]) [61] fQ=[32,58,32,97,32,61,32,50,10]:=by
  unfold Ez
  rw[z1j]
  rfl
 have h2:VN ([114],(3,([],(iO [97],(fQ,())))))=[114,117,108,101,32,119,101,97,107,32,114,32,58,32,97,32,61,32,50,10]:=by
  unfold VN
  dsimp only
  rw[h1]
  rfl
 show([]++[]++(List.range 1).flatMap (HW (Ew knF))++(VN ([114],(3,([],(iO [97],(fQ,())))))++[]))=_
 rw[h2]
 rfl
theorem RM:ff (Ew knF)=true:=by
 have h6:a6 (Ew knF)=true:=by
  show(!(nM ([114],(3,([],(iO [97],(fQ,())))))||false))=true
  have:nM ([114],(3,([],(iO [97],(fQ,())))))=false:=by
   show(!(zG [114])||(!(yu [])||(false||(false||(!(xM 0 (iO [97])) || !(xM 0 fQ))))))=false
   rw[D9 0 (by decide)]
   rfl
  rw[this]; rfl
 unfold ff
 rw[h6,Ic]
 rfl
theorem Fx:mc.run=some true:=by
 have hp:(jE knS).run=some (Ew knF,((0:Int),(0:Int))):=by
  rw[nn knS (λS h=>D2 (by decide) h)]
  unfold Ga
  rw[if_neg (by decide),CE]
  dsimp only
  rw[RM]
  rfl
 have hF:FS (Ew knF):=D2 (s:=knS) (by decide) CE
 have hp2:(uH (Ew knF)).run=some knT:=by
  unfold uH
  rw[z6 (mb _ hF),RM,z8 (by rfl)]
  have h:=RM
  unfold ff at h
  simp only[Bool.and_eq_true]at h
  rw[z6 (cA _ (G6 hF h.2.2.2.1 h.2.2.2.2.1 h.2.2.2.2.2.1)),z7,Ic]
 unfold mc
 rw[show([112,97,103,101,32,112,10,102,105,101,108,100,32,32,97,32,109,117,115,116,10,114,117,108,101,32,119,101,97,107,32,114,58,97,61,50,10]:ze)=knS from rfl,z6 hp]
 dsimp only
 rw[za (by rfl),za (by rfl),z6 hp2,z7]
 rfl
def HU{α:Type}(s:α->Nat)(l:List α):Nat:=(l.map s).sum
theorem rJ{α:Type}{s:α->Nat}{l:List α}{x:α}(h:x∈l):s x<=HU s l:=by
 unfold HU
 induction l with
 | nil=>cases h
 | cons y r ih =>
  rw[List.map_cons,List.sum_cons]
  rcases List.mem_cons.1 h with rfl | h
  ·omega
  ·have:=ih h; omega
theorem iX{α:Type}(l:List α)(d:α)(s:α->Nat){r:Int×Int->T ((Int×Int)⊕Int)}(hl:l.length<=1048576)
  (h1:∀ (n:Int) (k:Nat) (x:α),k<l.length->x∈l->nth l (k:Int) d=x->0<=n->n<=600->∃ n',(r (n,(k:Int))).run=some (.inl (n',zF ((k:Int)+1))) /\ -10000000000<=n'/\n'<=n/\(0<=n'->n'+s x<=n))
  (h2:∀ (n:Int) (k:Nat),¬ (k<l.length/\0<=n)->(r (n,(k:Int))).run=some (.inr n)) (n:Int) (hn : -10000000000<=n) (VB:n<=600) :
  ∃ n',(T.loop r (n,0)).run=some n' /\ -10000000000<=n'/\n'<=600/\(0<=n'->n'+HU s l<=n):=by
 refine T.qH (λz:Int×Int=>∃ k:Nat,z.2=(k:Int)/\k<=l.length /\ -10000000000<=z.1/\z.1<=600/\(0<=z.1->z.1+HU s (l.take k)<=n)) (λz=>l.length-z.2.toNat) _ (λz hz => ?_) ⟨0,rfl,by omega,hn,VB,λ_=>by simp[HU]⟩
 obtain⟨m,i⟩:=z
 obtain⟨k,rfl,hk,hm,Bt,hP⟩:=hz
 dsimp only at hm Bt hP ⊢
 by_cases c:k<l.length/\0<=m
 ·left
  obtain⟨n',g1,g2,g3,g4⟩:=h1 m k l[k] c.1 (List.getElem_mem c.1) (kO c.1 d) c.2 Bt
  rw[ll k _ c.1 (by omega)]at g1
  refine⟨_,g1,⟨k+1,rfl,c.1,g2,by dsimp only; omega,λh0 => ?_⟩,by dsimp only; omega⟩
  have:=hP c.2
  have:=g4 h0
  rw[List.take_succ_eq_append_getElem c.1]
  unfold HU at *
  rw[List.map_append,List.sum_append]
  simp only[List.map_cons,List.map_nil,List.sum_cons,List.sum_nil]
  omega
 ·right
  refine⟨m,h2 m k c,hm,Bt,λh0 => ?_⟩
  have:k=l.length:=by
   by_cases q:k<l.length
   ·exact absurd ⟨q,h0⟩ c
   ·omega
  have:=hP h0
  subst k
  rwa [List.take_length]at this
theorem fq(e:Expr)(left:Int)(h0 : -100000000000<=left)(h1:left<=600)(hb:bkE e<=1000000000):(jS e left).run=some (wtE e left):=by
 unfold jS
 refine ik (λx:Expr×Int => -100000000000<=x.2/\x.2<=600/\bkE x.1<=1000000000) (λx=>bkE x.1) (λx=>wtE x.1 x.2) (λx hx g hg => ?_) (x:=(e,left)) ⟨h0,h1,hb⟩
 obtain⟨e,left⟩:=x
 obtain⟨h0,h1,hx⟩:=hx
 simp only at hx hg h0 h1
 have hk:=QJ e
 have hkl:=Dx e.kids
 have loop:∀ acc:Int,-1000000000000<=acc->acc<=600->(nV (λy0 y1=>g (y0,y1)) e (acc,0)).run=some (wtEs e.kids acc):=by
  intro acc a1 a2
  refine G0 e.kids (zk .expr) (λb i=>(b,i)) (λb r=>b<=600/\∀ x∈r,x∈e.kids) (λr b=>wtEs r b) ?_ ?_ ⟨a2,λx hx=>hx⟩
  ·rintro b x xs i hi0 hi hx ⟨b1,b2⟩
   by_cases V4:0<=b
   ·have hm:=CL (b2 x List.mem_cons_self)
    have hr:=hg (x,b) ⟨by simp only; omega,b1,by simp only; omega⟩ (by simp only; omega)
    simp only at hr
    have:=(X7 x b).1
    refine .inl ⟨wtE x b,?_,⟨by omega,λy hy=>b2 y (List.mem_cons_of_mem _ hy)⟩,?_⟩
    ·simp(disch:=omega) [jR,hi,hx,V4,hr]
    ·simp[wtEs,V4]
   ·right
    have hw:wtEs (x::xs) b=b:=PJ _ _ V4
    simp[jR,hi,V4,hw]
  ·rintro b _
   simp[jR,wtEs]
 unfold bQ
 cases e with | mk k n s kids =>
 simp only[Expr.kids,Expr.name,Expr.num,bkE]at *
 have hL:=loop (left-3-s.length-8*n.2.1.length-8*n.2.2.1.length) (by omega) (by omega)
 simp(disch:=omega) [zA,hL,wtE]
def wPa(x:Param):Nat:=8*x.2.1.2.1.length+8*x.2.1.2.2.1.length+x.1.length
def wSw(x:Switch):Nat:=x.1.length
def wFd(x:Field):Nat:=x.1.length
def wPg(x:xm):Nat:=x.1.length+x.2.1.length
def wRu(x:qI):Nat:=x.1.length+x.2.2.1.length+szE x.2.2.2.1+szE x.2.2.2.2.1
def wCk(x:Check):Nat:=x.1.length+szE x.2.2.2.1+szE x.2.2.2.2.1
def nF(f:Form):Nat:=f.1.length+f.2.1.length+f.2.2.1.length+f.2.2.2.1.length+f.2.2.2.2.1.length+f.2.2.2.2.2.1.length
def wF(f:Form):Nat:=20*nF f+HU wPa f.2.1+HU wSw f.1+HU wPg f.2.2.1+HU wFd f.2.2.2.1+HU wRu f.2.2.2.2.1+HU wCk f.2.2.2.2.2.1
theorem Et(f:Form)(h:FB f):∃ b,(dY f).run=some b/\(b=false->wF f<=600):=by
 obtain⟨hl1,fj,hl3,hl4,hl5,hl6,hs,hp,hg,hd,hr,hc⟩:=h
 obtain⟨n1,r1,a1,b1,P1⟩:=iX f.2.1 (zk zM) wPa (r:=kV f) fj (λn k x hk hx hn h0 h6=>by
  obtain⟨q1,q2,q3,_⟩:=hp x hx
  refine⟨n-8*x.2.1.2.1.length-8*x.2.1.2.2.1.length-x.1.length,?_,by omega,by omega,λ_=>by unfold wPa; omega⟩
  simp(disch:=omega) [kV,hk,h0,hn,zA])
  (λn k hk=>by simp[kV,hk]) (600-20*(nF f:Int)) (by unfold nF; omega) (by omega)
 obtain⟨n2,r2,a2,b2,P2⟩:=iX f.1 (zk zw) wSw (r:=kZ f) hl1 (λn k x hk hx hn h0 h6=>by
  have q1:=hs x hx
  refine⟨n-x.1.length,?_,by omega,by omega,λ_=>by unfold wSw; omega⟩
  simp(disch:=omega) [kZ,hk,h0,hn,zA])
  (λn k hk=>by simp[kZ,hk]) n1 a1 b1
 obtain⟨n3,r3,a3,b3,P3⟩:=iX f.2.2.1 (zk zY) wPg (r:=kX f) hl3 (λn k x hk hx hn h0 h6=>by
  obtain⟨q1,q2⟩:=hg x hx
  refine⟨n-x.1.length-x.2.1.length,?_,by omega,by omega,λ_=>by unfold wPg; omega⟩
  simp(disch:=omega) [kX,hk,h0,hn,zA])
  (λn k hk=>by simp[kX,hk]) n2 a2 b2
 obtain⟨n4,r4,a4,b4,P4⟩:=iX f.2.2.2.1 (zk zN) wFd (r:=kU f) hl4 (λn k x hk hx hn h0 h6=>by
  have q1:=hd x hx
  refine⟨n-x.1.length,?_,by omega,by omega,λ_=>by unfold wFd; omega⟩
  simp(disch:=omega) [kU,hk,h0,hn,zA])
  (λn k hk=>by simp[kU,hk]) n3 a3 b3
 obtain⟨n5,r5,a5,b5,P5⟩:=iX f.2.2.2.2.1 (zk q9) wRu (r:=y9 f) hl5 (λn k x hk hx hn h0 h6=>by
  obtain⟨q1,q2,q3,q4⟩:=hr x hx
  have m1:=X7 x.2.2.2.1 (n-x.1.length-x.2.2.1.length)
  have m2:=X7 x.2.2.2.2.1 (wtE x.2.2.2.1 (n-x.1.length-x.2.2.1.length))
  have s1:=UB x.2.2.2.1 (n-x.1.length-x.2.2.1.length)
  have s2:=UB x.2.2.2.2.1 (wtE x.2.2.2.1 (n-x.1.length-x.2.2.1.length))
  have w1:=fq x.2.2.2.1 (n-x.1.length-x.2.2.1.length) (by omega) (by omega) (by omega)
  have w2:=fq x.2.2.2.2.1 (wtE x.2.2.2.1 (n-x.1.length-x.2.2.1.length)) (by omega) (by omega) (by omega)
  refine⟨_,?_,by omega,Int.le_trans m2.1 (by omega),λh=>by have:=s2 h; have:=s1 (by omega); unfold wRu; omega⟩
  simp(disch:=omega) [y9,hk,h0,hn,zA,w1,w2])
  (λn k hk=>by simp[y9,hk]) n4 a4 b4
 obtain⟨n6,r6,a6,b6,P6⟩:=iX f.2.2.2.2.2.1 (zk zT) wCk (r:=kQ f) hl6 (λn k x hk hx hn h0 h6=>by
  obtain⟨q1,q3,q4⟩:=hc x hx
  have m1:=X7 x.2.2.2.1 (n-x.1.length)
  have m2:=X7 x.2.2.2.2.1 (wtE x.2.2.2.1 (n-x.1.length))
  have s1:=UB x.2.2.2.1 (n-x.1.length)
  have s2:=UB x.2.2.2.2.1 (wtE x.2.2.2.1 (n-x.1.length))
  have w1:=fq x.2.2.2.1 (n-x.1.length) (by omega) (by omega) (by omega)
  have w2:=fq x.2.2.2.2.1 (wtE x.2.2.2.1 (n-x.1.length)) (by omega) (by omega) (by omega)
  refine⟨_,?_,by omega,Int.le_trans m2.1 (by omega),λh=>by have:=s2 h; have:=s1 (by omega); unfold wCk; omega⟩
  simp(disch:=omega) [kQ,hk,h0,hn,zA,w1,w2])
  (λn k hk=>by simp[kQ,hk]) n5 a5 b5
 refine⟨decide (n6<0),?_,λhb => ?_⟩
 ·unfold dY
  have e0:∀ a b c d e g:Int,0<=a->a<=1048576->0<=b->b<=1048576->0<=c->c<=1048576->0<=d->d<=1048576->0<=e->e<=1048576->0<=g->g<=1048576->zF ((600:Int)-zF (20*zF (zF (zF (zF (zF (a+b)+c)+d)+e)+g)))=600-20*(a+b+c+d+e+g):=by
   intros; simp(disch:=omega) only[zA]
  rw[e0 _ _ _ _ _ _ (by omega) (by omega) (by omega) (by omega) (by omega) (by omega) (by omega) (by omega) (by omega) (by omega) (by omega) (by omega)]
  have r1:(sE f (600-20*((f.1.length:Int)+f.2.1.length+f.2.2.1.length+f.2.2.2.1.length+f.2.2.2.2.1.length+f.2.2.2.2.2.1.length),0)).run=some n1:=by
   rw[<- r1]; unfold nF; congr
  have r2:(sd f (n1,0)).run=some n2:=r2
  have r3:(sA f (n2,0)).run=some n3:=r3
  have r4:(su f (n3,0)).run=some n4:=r4
  have r5:(sq f (n4,0)).run=some n5:=r5
  have r6:(sk f (n5,0)).run=some n6:=r6
  simp[r1,r2,r3,r4,r5,r6]
 ·have:=of_decide_eq_false hb
  unfold wF
  omega
theorem zaE{f:Form}(h:wF f<=600):FL f:=by
 have a1:∀ x∈f.1,x.1.length<=HU wSw f.1:=λx hx=>rJ (s:=wSw) hx
 have a2:∀ x∈f.2.1,8*x.2.1.2.1.length+8*x.2.1.2.2.1.length+x.1.length<=HU wPa f.2.1:=λx hx=>rJ (s:=wPa) hx
 have a3:∀ x∈f.2.2.1,x.1.length+x.2.1.length<=HU wPg f.2.2.1:=λx hx=>rJ (s:=wPg) hx
 have a4:∀ x∈f.2.2.2.1,x.1.length<=HU wFd f.2.2.2.1:=λx hx=>rJ (s:=wFd) hx
 have a5:∀ x∈f.2.2.2.2.1,x.1.length+x.2.2.1.length+szE x.2.2.2.1+szE x.2.2.2.2.1<=HU wRu f.2.2.2.2.1:=λx hx=>rJ (s:=wRu) hx
 have a6:∀ x∈f.2.2.2.2.2.1,x.1.length+szE x.2.2.2.1+szE x.2.2.2.2.1<=HU wCk f.2.2.2.2.2.1:=λx hx=>rJ (s:=wCk) hx
 unfold wF nF at h
 refine⟨by omega,λx hx => ?_,λx hx => ?_,λx hx => ?_,λx hx => ?_,λx hx => ?_,λx hx => ?_⟩
 ·have:=a1 x hx; omega
 ·have:=a2 x hx; omega
 ·have:=a3 x hx; omega
 ·have:=a4 x hx; omega
 ·have:=a5 x hx; omega
 ·have:=a6 x hx; omega
theorem z2Q(f:Form)(hw:wf qc f)(hb:bk qc f<=1048576):∃ b,(dY f).run=some b/\(b=false->FS f/\wF f<=600):=by
 obtain⟨b,hr,hf⟩:=Et f (z4S hw hb)
 exact⟨b,hr,λh=>⟨zcz hw (z4S hw hb) (zaE (hf h)),hf h⟩⟩
def prF(f:Form):ze:=if ff f=true then Nx f else[]
theorem Gi{f:Form}(hF:FS f)(h:ff f=true):DB f:=by
 unfold ff at h
 simp only[Bool.and_eq_true]at h
 exact G6 hF h.2.2.2.1 h.2.2.2.2.1 h.2.2.2.2.2.1
theorem Wv(f:Form)(h:FS f):(uH f).run=some (prF f):=by
 unfold uH prF
 rw[z6 (mb f h)]
 cases c:ff f with
 | false=>rfl
 | true=>rw[z8 (by rfl),z6 (cA f (Gi h c))]; rfl
theorem z6f(x:Param)(h:we 100 x.2.1):(YC x).length<=25*(20+wPa x):=by
 obtain⟨q1,q2,q3,q4⟩:=yd (k:=x.2.1.2.1.length+x.2.1.2.2.1.length+1) (by omega) (a:=x.2.1) ⟨h.1,h.2.1,by omega,by omega⟩
 have p1:=Vc (nv (norm x.2.1).2.1) _ (by omega) (Nat.le_trans (zy q1) q3)
 have p2:=Vc (nv (norm x.2.1).2.2.1) _ (by omega) (Nat.le_trans (zy q2) q4)
 have l7:(Wz (norm x.2.1).1).length<=1:=by unfold Wz; split<;>simp
 unfold YC wPa vk
 split<;>simp only[List.length_append,List.length_cons,List.length_nil]<;>omega
theorem Bc{f:Form}(h:ff f=true):a1 f=true/\a2 f=true/\a3 f=true/\a4 f=true/\a5 f=true/\a6 f=true:=by
 unfold ff at h
 simp only[Bool.and_eq_true]at h
 exact⟨h.1,h.2.1,h.2.2.1,h.2.2.2.1,h.2.2.2.2.1,h.2.2.2.2.2.1⟩
theorem Ed(x:ze)(l:List ze)(S:gJ)(k:Nat):uf (x::l) S k=if(wz S.2.2.1.length x).1=0 then uf l (bn S (wz S.2.2.1.length x).2) (k+1)else .inl (k+1,(wz S.2.2.1.length x).1):=rfl
theorem z1s(S:gJ):bn S xD=S:=Ql S.1 S.2.1 S.2.2.1 S.2.2.2.1 S.2.2.2.2.1 S.2.2.2.2.2
theorem Nu{line:ze}(h:∀ np,wz np line=(0,xD))(l:List ze)(S:gJ)(k:Nat):uf (line::l) S k=uf l S (k+1):=by
 conv=>lhs; unfold uf
 rw[h,if_pos rfl,z1s]
theorem y6(w r:ze)(h0:w≠[])(h:(32:UInt8) ∉ w):xA 32 [] (w++32::r)=w::xA 32 [] r:=by
 rw[Xh 32 w [] (32::r) λb hb e=>h (e▸hb),List.nil_append]
 conv=>lhs; unfold xA
 rw[if_pos rfl,if_neg h0]
theorem Jh(w:ze)(h0:w≠[])(h:(32:UInt8) ∉ w):xA 32 [] w=[w]:=by
 have:=Xh 32 w [] [] λb hb e=>h (e▸hb)
 rw[List.append_nil,List.nil_append]at this
 rw[this]
 unfold xA
 rw[if_neg h0]
theorem jm{s:ze}(h:zG s=true)(c:UInt8)(hc:wX c=false):c ∉ s:=Zm (kl h).2.1 c hc
theorem mP{s:ze}(h:zG s=true):s≠[]:=by
 obtain⟨_,_,c,r,rfl,_⟩:=kl h
 exact List.cons_ne_nil _ _
def C2(c:UInt8):Bool := !(c==10||(c==60||c==61))
theorem Pb{c:UInt8}(h:wX c=true):C2 c=true:=by
 unfold C2
 by_cases h1:c=10
 ·subst h1; exact absurd h (by decide)
 by_cases h2:c=60
 ·subst h2; exact absurd h (by decide)
 by_cases h3:c=61
 ·subst h3; exact absurd h (by decide)
 simp[h1,h2,h3]
theorem z7B{s:ze}(h:s.all wX=true):s.all C2=true:=by
 rw[List.all_eq_true]at h ⊢
 exact λc hc=>Pb (h c hc)
theorem VC{s:ze}(h:qS s=true):s.all C2=true:=by
 unfold qS at h
 rw[List.all_eq_true]at h ⊢
 exact λc hc=>Pb (RG (h c hc))
theorem Pf{n:Rat}(hn:uR n)(h:ug n=true):(eL n).all C2=true:=by
 obtain⟨_,_,w,h1,_,h3 | ⟨p,h4,_,h5⟩⟩:=mZ hn h
 ·rw[h3]; exact VC h1
 ·rw[h5,List.all_append,VC h1,List.all_cons,VC h4]; rfl
theorem VM(b:Bool){s:ze}(h:s.all C2=true):(um b s).all C2=true:=by
 unfold um
 split
 ·simp only[List.all_append,h]; rfl
 ·exact h
theorem Nl(k:Int):(ZI k).all C2=true:=by unfold ZI; (repeat' split)<;>rfl
theorem z39:∀ (m:Nat) (e:Expr) (d:Nat),xw e<=m->xM d e=true->allOk e->(prE e).all C2=true:=by
 intro m
 induction m with
 | zero=>intro e d hm; cases e; unfold xw at hm; omega
 | succ m ih =>
  intro e d hm ho ha
  cases e with | mk k n s l =>
  obtain⟨hk,hl⟩:=oR ho
  obtain⟨hn,iI⟩:=ha
  have F4:xw (.mk k n s l)=1+wR l:=rfl
  rw[F4]at hm
  have OG:(decide (d<32)&&(uX (.mk k n s l)&&uC (d+1) l))=true:=ho
  simp only[Bool.and_eq_true]at OG
  rw[Hr]
  by_cases h1:k=1
  ·subst h1
   have h9:((((Expr.mk 1 n s l).kids.length:Int)==fp 1)&&(ug n&&zi s []))=true:=OG.2.1
   simp only[Bool.and_eq_true]at h9
   rw[if_pos rfl]
   exact Pf hn h9.2.1
  ·rw[if_neg h1]
   by_cases h2:k=2
   ·subst h2
    have h9:((((Expr.mk 2 n s l).kids.length:Int)==fp 2)&&(xC n&&zG s))=true:=OG.2.1
    simp only[Bool.and_eq_true]at h9
    rw[if_pos rfl]
    exact z7B (kl h9.2.2).2.1
   ·rw[if_neg h2]
    match l,hl,iI,hm with
    | [],_,_,_=>show(fI k []).all C2=true; unfold fI; rfl
    | [a],hl,iI,hm =>
     have ha':xM (d+1) a=true:=by
      have:(xM (d+1) a&&uC (d+1) [])=true:=hl
      simp only[Bool.and_eq_true]at this; exact this.1
     have:=ih a (d+1) (by have:wR [a]=xw a+0:=rfl; omega) ha' iI.1
     show([45]++um (decide (zr a.kind<3)) (prE a)).all C2=true
     rw[List.all_append,VM _ this]; rfl
    | [a,b],hl,iI,hm =>
     have Wt:xM (d+1) a=true/\xM (d+1) b=true:=by
      have:(xM (d+1) a&&(xM (d+1) b&&uC (d+1) []))=true:=hl
      simp only[Bool.and_eq_true]at this; exact⟨this.1,this.2.1⟩
     have e0:wR [a,b]=xw a+(xw b+0):=rfl
     have h3:=ih a (d+1) (by omega) Wt.1 iI.1
     have h4:=ih b (d+1) (by omega) Wt.2 iI.2.1
     show(um (decide (zr a.kind<zr k)) (prE a)++ZI k++um (decide (zr b.kind<zr k+1)) (prE b)).all C2=true
     rw[List.all_append,List.all_append,VM _ h3,VM _ h4,Nl]; rfl
    | a::b::c::r,_,_,_=>show(fI k _).all C2=true; unfold prL prL prL fI; rfl
theorem E7{e:Expr}(h:xM 0 e=true)(ha:wm e):(prE e).all C2=true:=z39 (xw e) e 0 (Nat.le_refl _) h ha.2.2
theorem z8f{e:Expr}(h:xM 0 e=true)(ha:wm e):KQ e=true:=by
 unfold KQ
 rw[h,decide_eq_true (GK ha)]; rfl
theorem Y9{e:Expr}(h:xM 0 e=true)(ha:wm e)(m n:Nat):qu (iD m++(prE e++iD n))=(canE e,((0:Int),(0:Int))):=by
 have MW:yl (iD n)=[]:=by have:=F6 n []; rw[List.append_nil]at this; exact this
 have zfh:nK (iD n)=true:=by have:=z1A n (r:=[]) rfl; rwa [List.append_nil]at this
 have h1:=(rdE e 0 h ha.2.2).sum (iD n) false (.ok (canE e) [] false) zfh (by unfold xT; rw[MW]) (by
  have:=WT (d:=0) (e:=canE e) (r:=iD n) (l:=false) (by unfold xT; rw[MW])
  rwa [MW]at this)
 have hs:=z9X h1 (s':=iD m++(prE e++iD n)) (F6 m _)
 unfold qu
 rw[PC hs]
 unfold Bx oF
 dsimp only
 rw[if_neg (by decide),z3j (z8f h ha) ha.2.2,if_neg (by simp)]
theorem VS{l r:Expr}(h1:xM 0 l=true)(h2:xM 0 r=true)(e1:wm l)(e2:wm r)(n:Int)(h0:0<=n)(hn:n<=2):qQ ([32]++prE l++[32]++jt n++[32]++prE r)=(canE l,(canE r,(n,(0:Int)))):=by
 have p1:=Y9 h1 e1 1 1
 have p2:=Y9 h2 e2 1 0
 rw[show iD 0=[]from rfl,List.append_nil]at p2
 have kK:∀ b∈iD 1++(prE l++iD 1),b≠60/\b≠61:=λb hb=>by
  have ha:(iD 1++(prE l++iD 1)).all C2=true:=by rw[List.all_append,List.all_append,E7 h1 e1]; rfl
  have:=List.all_eq_true.1 ha b hb
  unfold C2 at this
  simp only[Bool.not_eq_true',Bool.or_eq_false_iff,beq_eq_false_iff_ne]at this
  exact this.2
 have hc:yH (jt n++([32]++prE r))=some ([],n,iD 1++prE r):=by
  have:n=0\/n=1\/n=2:=by omega
  rcases this with rfl | rfl | rfl<;>rfl
 have hq:=X9 (jt n++([32]++prE r)) kK
 rw[hc]at hq
 dsimp only at hq
 unfold qQ
 rw[show[32]++prE l++[32]++jt n++[32]++prE r=iD 1++(prE l++iD 1)++(jt n++([32]++prE r)) by simp[iD],hq]
 dsimp only
 rw[List.append_nil,p1,p2,if_neg (λh=>h rfl)]
end Go.AM.Lf
