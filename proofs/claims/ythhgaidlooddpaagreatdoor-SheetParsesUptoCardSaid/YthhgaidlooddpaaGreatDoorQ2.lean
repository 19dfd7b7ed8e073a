/-
  Plain laws of the lifted program, part 2.
-/
import Derived.Test.YthhgaidlooddpaaGreatDoorLf0
import Derived.Test.YthhgaidlooddpaaGreatDoorAmA
import Derived.Test.YthhgaidlooddpaaGreatDoorAmD
import Derived.Test.YthhgaidlooddpaaGreatDoorQ0
import Derived.Test.YthhgaidlooddpaaGreatDoorQ1
set_option linter.unusedVariables false
open Go.AM.T (k8 nC q8 qu vB z6 z7 z8 zL za zb zf zk zm)
namespace Go.AM.Lf
open PL
def gb(e:Expr):Prop:=allOk e/\bkE e<=300*vy e
def PR.lK(N:Nat):PR->Prop
 | .ok e r _=>gb e/\vy e+r.length<=N
 | _=>True
theorem L6(e:Expr):1<=vy e:=by cases e; unfold vy; omega
theorem jL:yN qo:=⟨gD,gD,by show(0:Nat)<=100; omega,by show(0:Nat)<=100; omega⟩
theorem su(k:Int)(n:Rat)(s:zd)(hn:yN n)(hs:s.length<=24):gb (.mk k n s []):=by
 refine⟨⟨hn,trivial⟩,?_⟩
 have h3:=hn.2.2.1
 have h4:=hn.2.2.2
 show 1+((1+((List.length n.2.1+1)+((List.length n.2.2.1+1)+1)))+((List.length s+1)+((0+1)+1)))<=300*(1+0)
 omega
theorem FM(k:Int){a:Expr}(h:gb a):gb (iC k [a]):=by
 refine⟨⟨jL,h.1,trivial⟩,?_⟩
 show 1+((1+((0+1)+((0+1)+1)))+((0+1)+(((bkE a+0)+1)+1)))<=300*(1+(vy a+0))
 have:=h.2
 omega
theorem Ei(k:Int){a b:Expr}(h:gb a)(h2:gb b):gb (iC k [a,b]):=by
 refine⟨⟨jL,h.1,h2.1,trivial⟩,?_⟩
 show 1+((1+((0+1)+((0+1)+1)))+((0+1)+(((bkE a+(bkE b+0))+1)+1)))<=300*(1+(vy a+(vy b+0)))
 have:=h.2
 have:=h2.2
 omega
theorem nd1(k:Int)(a:Expr):vy (iC k [a])=1+vy a:=rfl
theorem nd2(k:Int)(a b:Expr):vy (iC k [a,b])=1+(vy a+vy b):=rfl
theorem PR.so{N:Nat}{R:PR}{f:Expr->zd->Bool->PR}{M:Nat}(h:R.lK M)(hf:∀ e r l,gb e->vy e+r.length<=M->(f e r l).lK N):(R.bind f).lK N:=by
 cases R with
 | no=>trivial
 | er=>trivial
 | ok e r l=>exact hf e r l h.1 h.2
theorem z3V(t:zd)(ht:t.length<=400):yN (oe t):=by
 unfold oe
 split
 ·rename_i n d h
  have:=WB (List.isPrefixOf [45] t) ht h
  exact⟨this.1,this.2.1,by have:=this.2.2.1; omega,by have:=this.2.2.2; omega⟩
 ·exact jL
theorem XO{z:Rat}(hz:yN z)(t r:zd)(l:Bool)(N:Nat)(h:r.length+1<=N):(XE z t r l).lK N:=by
 unfold XE
 split
 ·exact⟨su 1 z [] hz (by simp),by show 1+0+r.length<=N; omega⟩
 ·exact⟨su 1 _ [] (z3V t (by omega)) (by simp),by show 1+0+r.length<=N; omega⟩
theorem Ov{z:Rat}(hz:yN z)(d:Nat)(c:UInt8)(r:zd)(l:Bool)(hc:wE c=true):(XB z d (c::r) l).lK (c::r).length:=by
 have hd:(c::r).dropWhile wE=r.dropWhile wE:=by rw[List.dropWhile_cons_of_pos hc]
 have hl:=(gS wE r).length_le
 unfold XB
 rw[hd]
 split
 ·exact XO hz _ _ _ _ (by simp)
 ·rename_i c' q e
  rw[e]at hl
  split
  ·split
   ·trivial
   ·have:=(gS wE q).length_le
    simp at hl
    exact XO hz _ _ _ _ (by grind)
  ·exact XO hz _ _ _ _ (by grind)
theorem BH(p:UInt8->Bool):∀ (n:Nat) (r:zd),(uK p n r).1.length<=n
 | 0,_=>by unfold uK; simp
 | _+1,[]=>by unfold uK; simp
 | n+1,c::r=>by
  have:=BH p n r
  unfold uK
  grind
theorem z7r{c:UInt8}(h:Uy c=true):wb c=true:=by unfold wb; rw[h]; rfl
theorem Nb(c:UInt8)(r:zd)(l:Bool)(hc:Uy c=true):(z3y (c::r) l).lK (c::r).length:=by
 have h1:=BH wb 24 (c::r)
 have h2:=congrArg List.length (pN wb 24 (c::r))
 have h3:(uK wb 24 (c::r)).1=c::(uK wb 23 r).1:=by
  show(if wb c=true then(c::(uK wb 23 r).1,(uK wb 23 r).2)else([],c::r)).1=_
  rw[if_pos (z7r hc)]
 refine⟨su 2 qo _ jL h1,?_⟩
 show 1+0+(uK wb 24 (c::r)).2.length<=_
 grind
theorem XN{m r q:zd}{c:UInt8}(h:jd m r=some (c,q)):q.length+1<=r.length:=by
 have:=(gG h).1.length_le
 grind
theorem Yh{K:Bool->zd->PR}(hK:∀ l q,(K l q).lK q.length)(m1 m2:UInt8)(k1 k2:Int):∀ (n:Nat) (e:Expr) (r:zd) (l:Bool) (N:Nat),gb e->vy e+r.length<=N->(fN K m1 m2 k1 k2 n e r l).lK N
 | 0,_,_,_,_,_,_=>trivial
 | n+1,e,r,l,N,he,hN=>by
  unfold fN
  split
  ·exact⟨he,by have:=H8 r; omega⟩
  ·rename_i c q ht
   have hq:=XN ht
   refine PR.so (hK l q) λe2 q2 l2 h1 h2 => ?_
   refine Yh hK m1 m2 k1 k2 n _ q2 l2 N (Ei _ he h1) ?_
   rw[nd2]
   omega
theorem Ym{K:Bool->zd->PR}(hK:∀ l q,(K l q).lK q.length)(m1 m2:UInt8)(k1 k2:Int)(n:Nat)(l:Bool)(r:zd):(rowP K m1 m2 k1 k2 n l r).lK r.length :=
 PR.so (hK l r) λe q l' h1 h2=>Yh hK m1 m2 k1 k2 n e q l' _ h1 h2
theorem OQ{z:Rat}(hz:yN z){F S:Nat->Bool->zd->PR}(hF:∀ d l q,(F d l q).lK q.length)(hS:∀ d l q,(S d l q).lK q.length)(d:Nat)(l:Bool)(r:zd):(Jh z F S d l r).lK r.length:=by
 have hk:=H8 r
 unfold Jh
 split
 ·trivial
 ·rename_i c q e
  rw[e]at hk
  simp at hk
  split
  ·split
   ·trivial
   ·refine PR.so (hF _ _ _) λe2 r2 l2 h1 h2=>⟨FM 7 h1,?_⟩
    rw[nd1]; omega
  ·split
   ·split
    ·trivial
    ·refine PR.so (hS _ _ _) λe2 r2 l2 h1 h2 => ?_
     split
     ·rename_i ht
      have:=XN ht
      exact⟨h1,by omega⟩
     ·trivial
   ·split
    ·rename_i hc
     have:=Ov hz d c q l hc
     cases w:XB z d (c::q) l with
     | no=>trivial
     | er=>trivial
     | ok e2 r2 l2=>rw[w]at this; exact⟨this.1,by have:=this.2; simp at this; omega⟩
    ·split
     ·rename_i hc
      have:=Nb c q l hc
      exact⟨this.1,by have:=this.2; simp at this; omega⟩
     ·trivial
theorem H9{z:Rat}(hz:yN z):∀ (n:Nat),(∀ d l r,(pF z n d l r).lK r.length)/\(∀ d l r,(pP z n d l r).lK r.length)/\(∀ d l r,(pS z n d l r).lK r.length)
 | 0=>⟨λ_ _ _=>by unfold pF; trivial,λ_ _ _=>by unfold pP; trivial,λ_ _ _=>by unfold pS; trivial⟩
 | n+1=>by
  obtain⟨h1,h2,h3⟩:=H9 hz n
  refine⟨λd l r => ?_,λd l r => ?_,λd l r => ?_⟩
  ·unfold pF; exact OQ hz h1 h3 d l r
  ·unfold pP; exact Ym (h1 d) _ _ _ _ n l r
  ·unfold pS; exact Ym (h2 d) _ _ _ _ n l r
theorem PR.VA{R:PR}{f:Expr->zd->Bool->PR}{M:Nat}(h:R≠.no)(hg:R.lK M)(hf:∀ e r l,gb e->vy e+r.length<=M->f e r l≠.no):R.bind f≠.no:=by
 cases R with
 | no=>grind
 | er=>nofun
 | ok e r l=>exact hf e r l hg.1 hg.2
theorem D1{K:Bool->zd->PR}(hK:∀ l q,(K l q).lK q.length)(m1 m2:UInt8)(k1 k2:Int):∀ (n:Nat) (e:Expr) (r:zd) (l:Bool),(∀ l q,q.length<=r.length->K l q≠.no)->r.length+1<=n->fN K m1 m2 k1 k2 n e r l≠.no
 | 0,_,_,_,_,h=>by omega
 | n+1,e,r,l,hT,h=>by
  unfold fN
  split
  ·simp
  ·rename_i c q ht
   have hq:=XN ht
   refine PR.VA (hT l q (by omega)) (hK l q) λe2 q2 l2 h1 h2 => ?_
   exact D1 hK m1 m2 k1 k2 n _ q2 l2 (λl q3 h3=>hT l q3 (by omega)) (by omega)
theorem BY{K:Bool->zd->PR}(hK:∀ l q,(K l q).lK q.length)(m1 m2:UInt8)(k1 k2:Int)(n:Nat)(l:Bool)(r:zd)(hT:∀ l q,q.length<=r.length->K l q≠.no)(h:r.length<=n):rowP K m1 m2 k1 k2 n l r≠.no:=by
 refine PR.VA (hT l r (Nat.le_refl _)) (hK l r) λe q l' h1 h2 => ?_
 have:=L6 e
 exact D1 hK m1 m2 k1 k2 n e q l' (λl q3 h3=>hT l q3 (by omega)) (by omega)
theorem To(z:Rat)(d:Nat)(r:zd)(l:Bool):XB z d r l≠.no:=by
 have fin:∀ t q,XE z t q l≠.no:=λt q=>by unfold XE; split<;>(intro h; cases h)
 unfold XB
 grind
theorem Sp{z:Rat}(hz:yN z):∀ (n:Nat),(∀ d l r,3*r.length+1<=n->pF z n d l r≠.no)/\(∀ d l r,3*r.length+2<=n->pP z n d l r≠.no)/\(∀ d l r,3*r.length+3<=n->pS z n d l r≠.no)
 | 0=>⟨λ_ _ _ h=>by omega,λ_ _ _ h=>by omega,λ_ _ _ h=>by omega⟩
 | n+1=>by
  obtain⟨h1,h2,h3⟩:=Sp hz n
  obtain⟨g1,g2,g3⟩:=H9 hz n
  refine⟨λd l r h => ?_,λd l r h => ?_,λd l r h => ?_⟩
  ·unfold pF
   have hk:=H8 r
   unfold Jh
   split
   ·simp
   ·rename_i c q e
    rw[e]at hk
    simp only[List.length_cons]at hk
    split
    ·split
     ·simp
     ·exact PR.VA (h1 _ _ _ (by omega)) (g1 _ _ _) λ_ _ _ _ _=>by intro h; cases h
    ·split
     ·split
      ·simp
      ·refine PR.VA (h3 _ _ _ (by omega)) (g3 _ _ _) λ_ _ _ _ _ => ?_
       grind
     ·split
      ·exact To z d _ l
      ·split<;>(intro h; cases h)
  ·unfold pP
   exact BY (g1 d) _ _ _ _ n l r (λl q hq=>h1 d l q (by omega)) (by omega)
  ·unfold pS
   exact BY (g2 d) _ _ _ _ n l r (λl q hq=>h2 d l q (by omega)) (by omega)
theorem I8(s:zd)(hs:s.length<=1000000)(ST:KT)(N:Nat)(hS:∀ m,m<=N->∀ d l r,d<=31->r <:+ s->pS qo m d l r≠.no->(ST (qL s r d l)).run=encR s d (pS qo m d l r))
  (n:Nat) (hn:n<=N+1) (d:Nat) (l:Bool) (r:zd) (hd:d<=31) (h:r <:+ s) (kf:pF qo n d l r≠.no):(vp ST (qL s r d l)).run=encR s d (pF qo n d l r):=by
 obtain⟨y,hy⟩:∃ y,encR s d (pF qo n d l r)=some y:=by
  cases q:pF qo n d l r with
  | no=>grind
  | er=>exact⟨_,rfl⟩
  | ok=>exact⟨_,rfl⟩
 rw[hy]
 refine T.Vy (λn x y=>n<=N+1/\∃ d l r,d<=31/\r <:+ s/\x=qL s r d l/\pF qo n d l r≠.no/\encR s d (pF qo n d l r)=some y) (λx y => ?_) (λn x y hx g hg => ?_) (n:=n) ⟨hn,d,l,r,hd,h,rfl,kf,hy⟩
 ·nofun
 ·obtain⟨hn,d,l,r,hd,h,rfl,kf,hy⟩:=hx
  rw[<- hy]
  have hgF:∀ d l r,d<=31->r <:+ s->pF qo n d l r≠.no->(g (qL s r d l)).run=encR s d (pF qo n d l r):=by
   intro d l r hd h kf
   obtain⟨y,hy⟩:∃ y,encR s d (pF qo n d l r)=some y:=by
    cases q:pF qo n d l r with
    | no=>grind
    | er=>exact⟨_,rfl⟩
    | ok=>exact⟨_,rfl⟩
   grind
  exact BK s hs (λy0=>g y0) ST (pF qo n) (pS qo n) hgF (hS n (by omega)) ((UK qo s n).2.2) d l r hd h kf
theorem Cu{t:T ((AM.Expr×zc)⊕(jK×zc))}{o:Option ((AM.Expr×zc)⊕(jK×zc))}(h:t.run=o)(ho:o≠none):(T.bind t<|Sum.elim (λ(r,p1)=>.ret (.inl (r,p1))) (λ(pv,p2)=>.ret (.inr (pv,p2))):T ((AM.Expr×zc)⊕(jK×zc))).run=o:=by
 cases o with
 | none=>grind
 | some x=>rw[z6 h]; cases x<;>rfl
theorem Ds{s:zd}{d:Nat}{R:PR}(h:R≠.no):encR s d R≠none:=by
 cases R with
 | no=>grind
 | er=>nofun
 | ok=>nofun
theorem DX(s:zd)(hs:s.length<=1000000)(ST:KT)(N:Nat)(hS:∀ m,m<=N->∀ d l r,d<=31->r <:+ s->pS qo m d l r≠.no->(ST (qL s r d l)).run=encR s d (pS qo m d l r))
  (n:Nat) (hn:n<=N+1) (d:Nat) (l:Bool) (r:zd) (hd:d<=31) (h:r <:+ s) (kf:pP qo n d l r≠.no):(wJ ST (qL s r d l)).run=encR s d (pP qo n d l r):=by
 cases n with
 | zero=>exact absurd (by rfl) kf
 | succ n =>
  refine Cu ?_ (Ds kf)
  exact DK s hs d (vp ST) (pF qo n d) (λl r h kf=>I8 s hs ST N hS n (by omega) d l r hd h kf) ((UK qo s n).1 d) 42 47 (by decide) (by decide) 5 6 n l r h kf
theorem z3f(s:zd)(hs:s.length<=1000000)(n:Nat)(d:Nat)(l:Bool)(r:zd)(hd:d<=31)(h:r <:+ s)(kf:pS qo n d l r≠.no):(ka (qL s r d l)).run=encR s d (pS qo n d l r):=by
 have fg:∀ (n d:Nat) (l:Bool) (r:zd),pS qo n d l r≠.no->∃ y,encR s d (pS qo n d l r)=some y:=by
  intro n d l r kf
  cases q:pS qo n d l r with
  | no=>grind
  | er=>exact⟨_,rfl⟩
  | ok=>exact⟨_,rfl⟩
 obtain⟨y,hy⟩:=fg n d l r kf
 rw[hy]
 refine T.Vy (λn x y=>∃ m,m<=n/\∃ d l r,d<=31/\r <:+ s/\x=qL s r d l/\pS qo m d l r≠.no/\encR s d (pS qo m d l r)=some y) (λx y => ?_) (λn x y hx g hg => ?_) (n:=n) ⟨n,Nat.le_refl _,d,l,r,hd,h,rfl,kf,hy⟩
 ·rintro⟨m,hm,d,l,r,_,_,_,h,_⟩
  have:m=0:=by omega
  subst this
  exact h (by rfl)
 ·obtain⟨m,hm,d,l,r,hd,h,rfl,kf,hy⟩:=hx
  rw[<- hy]
  cases m with
  | zero=>exact absurd (by rfl) kf
  | succ m =>
   have hg2:∀ k,k<=m->∀ d l r,d<=31->r <:+ s->pS qo k d l r≠.no->(g (qL s r d l)).run=encR s d (pS qo k d l r):=by
    grind
   refine Cu ?_ (Ds kf)
   exact DK s hs d (wJ λy0=>g y0) (pP qo m d) (λl r h kf=>DX s hs (λy0=>g y0) m hg2 m (by omega) d l r hd h kf) ((UK qo s m).2.1 d) 43 45 (by decide) (by decide) 3 4 m l r h kf
def pY(s:zd):PR->Expr×Int×Int×Bool
 | .no=>(zE,0,0,false)
 | .er k b _ _ l=>(zE,((xy s b:Nat):Int),k,l)
 | .ok e [] l=>(e,0,0,l)
 | .ok _ (c::r) l=>(zE,((xy s (c::r):Nat):Int),2,l)
def ik(z:Rat)(s:zd):PR:=pS z (3*s.length+3) 0 false s
theorem Lv{z:Rat}(hz:yN z)(s:zd):ik z s≠.no:=(Sp hz _).2.2 0 false s (Nat.le_refl _)
theorem Cw(z:Rat)(s:zd):(ik z s).om s:=(UK z s _).2.2 0 false s (List.suffix_refl s)
theorem W2{z:Rat}(hz:yN z)(s:zd):(ik z s).lK s.length:=(H9 hz _).2.2 0 false s
theorem EN(s:zd)(hs:s.length<=1000000):∃ p,(jX (s,((0:Int),((0:Int),(false,()))))).run=some ((pY s (ik qo s)).1,((pY s (ik qo s)).2.1,((pY s (ik qo s)).2.2.1,p)))/\p.2.2.2.1=(pY s (ik qo s)).2.2.2:=by
 have kf:=Lv jL s
 have hsf:=Cw qo s
 have hr:=z3f s hs (3*s.length+3) 0 false s (by omega) (List.suffix_refl s) kf
 have e0:qL s s 0 false=(s,((0:Int),((0:Int),(false,())))):=by unfold qL; rw[YR]; rfl
 rw[e0]at hr
 have hr:(ka (s,((0:Int),((0:Int),(false,()))))).run=encR s 0 (ik qo s):=hr
 unfold jX
 cases q:ik qo s with
 | no=>grind
 | er k b r d l =>
  rw[q]at hr
  refine⟨qL s r d l,?_,rfl⟩
  rw[z6 hr,Sum.elim_inr]
  rfl
 | ok e r l =>
  rw[q]at hr hsf
  cases r with
  | nil =>
   refine⟨qL s [] 0 l,?_,rfl⟩
   rw[z6 hr,Sum.elim_inl]
   dsimp only
   rw[uv,vA,lW,zf]
   rfl
  | cons c r =>
   refine⟨qL s (c::r) 0 l,?_,rfl⟩
   rw[z6 hr,Sum.elim_inl]
   dsimp only
   rw[uv,vA,dK hsf,zk]
   rfl
def Ci(s:zd)(R:PR):Expr×Int×Int :=
 if(pY s R).2.2.1≠0 then(zE,((pY s R).2.1,(pY s R).2.2.1))
 else if(pY s R).2.2.2=true\/Ea (pY s R).1=false then(zE,((0:Int),(3:Int)))
 else((pY s R).1,((0:Int),(0:Int)))
def qB(s:zd):Expr×Int×Int:=Ci s (ik qo s)
theorem Vx:gb zE:=su 0 qo [] jL (by simp)
theorem Gg{s:zd}{R:PR}{N:Nat}(h:R.lK N)(h1:1<=N):gb (pY s R).1/\vy (pY s R).1<=N:=by
 have hz:gb zE/\vy zE<=N:=⟨Vx,h1⟩
 cases R with
 | no=>exact hz
 | er=>exact hz
 | ok e r l =>
  cases r with
  | nil=>exact⟨h.1,by have:=h.2; show vy e<=N; omega⟩
  | cons=>exact hz
theorem YV(s:zd)(hs:s.length<=900000):(kg s).run=some (qB s):=by
 obtain⟨p,h1,h2⟩:=EN s (by omega)
 have hg:=Gg (s:=s) (R:=ik qo s) (N:=s.length+1) (by
  have:=W2 jL s
  cases q:ik qo s with
  | no=>trivial
  | er=>trivial
  | ok e r l=>rw[q]at this; exact⟨this.1,by have:=this.2; omega⟩) (by omega)
 unfold qB Ci
 generalize pY s (ik qo s)=w at h1 h2 hg ⊢
 obtain⟨e,at_,x,l⟩:=w
 dsimp only at h1 h2 hg ⊢
 unfold kg
 rw[z6 h1]
 by_cases c:x≠0
 ·rw[za (by grind),z7,if_pos c]
 ·rw[z8 (by grind),if_neg c,h2]
  have hI:=Oe e hg.1.1 (by omega)
  rw[z6 (a:=(decide (l=true\/Ea e=false),(zE,(p,e))))]
  ·dsimp only
   by_cases c2:l=true\/Ea e=false
   ·rw[za (decide_eq_true c2),z7,if_pos c2]
   ·rw[z8 (decide_eq_false c2),z7,if_neg c2]
  ·cases l with
   | true=>rfl
   | false =>
    rw[zf,z6 hI,z7]
    simp
inductive QR where
 | no
 | er (k:Int) (bad:zd) (x:Expr) (r:zd) (d:Nat) (l:Bool)
 | ok (e:Expr) (r:zd) (l:Bool)
def Hg(t r:zd)(l:Bool):QR:=if 400<t.length then .ok (.mk 1 (toR 0) [] []) r true else .ok (.mk 1 (oe t) [] []) r l
def CV(d:Nat)(r:zd)(l:Bool):QR:=match r.dropWhile wE with
 | []=>Hg (r.takeWhile wE) [] l
 | c::q=>if c=46 then(if q.takeWhile wE=[]then .er 2 q zE q d l else Hg (r.takeWhile wE++(46::q.takeWhile wE)) (q.dropWhile wE) l)
  else Hg (r.takeWhile wE) (c::q) l
def stuck:zd->Bool
 | []=>false
 | c::_=>wb c
def De(d:Nat)(r:zd)(l:Bool):QR:=if stuck (uK wb 24 r).2=true then .er 2 (uK wb 24 r).2 zE (uK wb 24 r).2 d l else .ok (.mk 2 qo (uK wb 24 r).1 []) (uK wb 24 r).2 l
def tK(K:Bool->zd->QR)(m1 m2:UInt8)(k1 k2:Int):Nat->Expr->zd->Bool->QR
 | 0,_,_,_=>.no
 | n+1,e,r,l=>match jd [m1,m2] r with
  | none=>.ok e (h9 r) l
  | some (c,q)=>match K l q with
   | .no=>.no
   | .er k b x q2 d2 l2=>.er k b (iC (if c=m1 then k1 else k2) [e,x]) (h9 q2) d2 l2
   | .ok e2 q2 l2=>tK K m1 m2 k1 k2 n (iC (if c=m1 then k1 else k2) [e,e2]) q2 l2
def Hr(K:Bool->zd->QR)(m1 m2:UInt8)(k1 k2:Int)(n:Nat)(l:Bool)(r:zd):QR:=match K l r with
 | .no=>.no
 | .er k b x q d l2=>.er k b x (h9 q) d l2
 | .ok e q l2=>tK K m1 m2 k1 k2 n e q l2
def Cc(F S:Nat->Bool->zd->QR)(d:Nat)(l:Bool)(s:zd):QR:=match h9 s with
 | []=>.er 2 [] zE [] d l
 | c::r =>
  if c=45 then(if 31<=d then .er 4 (c::r) zE (c::r) d l else match F (d+1) l r with
   | .no=>.no
   | .er k b x q d2 l2=>.er k b (iC 7 [x]) q (d2-1) l2
   | .ok e q l2=>.ok (iC 7 [e]) q l2)
  else if c=40 then(if 31<=d then .er 4 (c::r) zE (c::r) d l else match S (d+1) l r with
   | .no=>.no
   | .er k b _ q d2 l2=>.er k b zE (h9 q) d2 l2
   | .ok e q l2=>match jd [41] q with
    | some (_,q')=>.ok e q' l2
    | none=>.er 2 (h9 q) zE (h9 q) (d+1) l2)
  else if wE c=true then CV d (c::r) l
  else if Uy c=true then De d (c::r) l
  else .er 2 (c::r) zE (c::r) d l
mutual
def qF:Nat->Nat->Bool->zd->QR
 | 0,_,_,_=>.no
 | n+1,d,l,s=>Cc (qF n) (qS n) d l s
def qP:Nat->Nat->Bool->zd->QR
 | 0,_,_,_=>.no
 | n+1,d,l,s=>Hr (qF n d) 42 47 5 6 n l s
def qS:Nat->Nat->Bool->zd->QR
 | 0,_,_,_=>.no
 | n+1,d,l,s=>Hr (qP n d) 43 45 3 4 n l s
end
def QR.rel(l0:Bool):QR->PR->Prop
 | _,.no=>True
 | .no,_=>False
 | .er k b _ _ _ _,.er k' b' _ _ _=>k=k'/\b=b'
 | .er k b _ _ _ _,.ok _ r' _=>k=2/\b=r'/\stuck r'=true
 | .ok e r l,.ok e' r' l'=>r=r'/\l=l'/\(l=false->l0=false/\e=e')
 | .ok _ _ _,.er _ _ _ _ _=>False
theorem HV(l:Bool)(Q:QR):Q.rel l .no:=by cases Q<;>trivial
theorem J1{m r:zd}(h:stuck r=true)(hm:m.all (λc => !wb c)=true):jd m r=none/\h9 r=r:=by
 cases r with
 | nil=>cases h
 | cons c q =>
  have h:wb c=true:=h
  have h32:c≠32:=by rintro rfl; revert h; decide
  have e:h9 (c::q)=c::q:=by unfold h9; rw[if_neg h32]
  unfold jd
  grind
theorem H0(t r:zd)(l:Bool):(Hg t r l).rel l (XE qo t r l):=by
 unfold Hg XE
 split
 ·exact⟨rfl,rfl,λh=>by cases h⟩
 ·exact⟨rfl,rfl,λh=>⟨h,rfl⟩⟩
theorem z1U(d:Nat)(r:zd)(l:Bool):(CV d r l).rel l (XB qo d r l):=by
 unfold CV XB
 cases r.dropWhile wE with
 | nil=>exact H0 _ _ _
 | cons c q =>
  dsimp only
  by_cases hc:c=46
  ·rw[if_pos hc,if_pos hc]
   by_cases hq:q.takeWhile wE=[]
   ·rw[if_pos hq,if_pos hq]; exact⟨rfl,rfl⟩
   ·rw[if_neg hq,if_neg hq]; exact H0 _ _ _
  ·rw[if_neg hc,if_neg hc]; exact H0 _ _ _
theorem z3T(d:Nat)(r:zd)(l:Bool):(De d r l).rel l (z3y r l):=by
 unfold De z3y
 split
 ·rename_i h; exact⟨rfl,rfl,h⟩
 ·exact⟨rfl,rfl,λh=>⟨h,rfl⟩⟩
theorem JF(K:Bool->zd->PR)(m1 m2:UInt8)(k1 k2:Int)(hm:[m1,m2].all (λc => !wb c)=true)(n:Nat)(e:Expr){r:zd}(l:Bool)(h:stuck r=true):fN K m1 m2 k1 k2 n e r l=.no\/fN K m1 m2 k1 k2 n e r l=.ok e r l:=by
 cases n with
 | zero=>exact .inl rfl
 | succ n =>
  obtain⟨h1,h2⟩:=J1 h hm
  right
  unfold fN
  rw[h1,h2]
theorem Df{KQ:Bool->zd->QR}{K:Bool->zd->PR}(hK:∀ l q,(KQ l q).rel l (K l q))(m1 m2:UInt8)(k1 k2:Int)(hm:[m1,m2].all (λc => !wb c)=true)(l0:Bool) :
  ∀ (n:Nat) (e e':Expr) (r:zd) (l:Bool),(l=false->l0=false/\e=e')->(tK KQ m1 m2 k1 k2 n e r l).rel l0 (fN K m1 m2 k1 k2 n e' r l)
 | 0,_,_,_,_,_=>trivial
 | n+1,e,e',r,l,h=>by
  unfold tK fN
  cases q:jd [m1,m2] r with
  | none=>exact⟨rfl,rfl,h⟩
  | some x =>
   obtain⟨c,q'⟩:=x
   dsimp only
   have hr:=hK l q'
   cases zP:K l q' with
   | no=>exact HV _ _
   | er k' b' r' d' l' =>
    rw[zP]at hr
    cases zQ:KQ l q' with
    | no=>rw[zQ]at hr; exact hr.elim
    | er k b x q2 d2 l2=>rw[zQ]at hr; exact hr
    | ok=>rw[zQ]at hr; exact hr.elim
   | ok e2 q2 l2 =>
    rw[zP]at hr
    show QR.rel l0 _ (fN K m1 m2 k1 k2 n (iC (if c=m1 then k1 else k2) [e',e2]) q2 l2)
    cases zQ:KQ l q' with
    | no=>rw[zQ]at hr; exact hr.elim
    | er k b x q3 d3 l3 =>
     rw[zQ]at hr
     obtain⟨rfl,rfl,hs⟩:=hr
     rcases JF K m1 m2 k1 k2 hm n (iC (if c=m1 then k1 else k2) [e',e2]) l2 hs with w | w<;>rw[w]
     ·trivial
     ·exact⟨rfl,rfl,hs⟩
    | ok e3 q3 l3 =>
     rw[zQ]at hr
     obtain⟨rfl,rfl,hh⟩:=hr
     refine Df hK m1 m2 k1 k2 hm l0 n _ _ q3 l3 λh3 => ?_
     grind
theorem LM{KQ:Bool->zd->QR}{K:Bool->zd->PR}(hK:∀ l q,(KQ l q).rel l (K l q))(m1 m2:UInt8)(k1 k2:Int)(hm:[m1,m2].all (λc => !wb c)=true)(n:Nat)(l:Bool)(r:zd):(Hr KQ m1 m2 k1 k2 n l r).rel l (rowP K m1 m2 k1 k2 n l r):=by
 have hr:=hK l r
 unfold Hr rowP
 cases zP:K l r with
 | no=>exact HV _ _
 | er k' b' r' d' l' =>
  rw[zP]at hr
  cases zQ:KQ l r with
  | no=>rw[zQ]at hr; exact hr.elim
  | er k b x q2 d2 l2=>rw[zQ]at hr; exact hr
  | ok=>rw[zQ]at hr; exact hr.elim
 | ok e2 q2 l2 =>
  rw[zP]at hr
  show QR.rel l _ (fN K m1 m2 k1 k2 n e2 q2 l2)
  cases zQ:KQ l r with
  | no=>rw[zQ]at hr; exact hr.elim
  | er k b x q3 d3 l3 =>
   rw[zQ]at hr
   obtain⟨rfl,rfl,hs⟩:=hr
   rcases JF K m1 m2 k1 k2 hm n e2 l2 hs with w | w<;>rw[w]
   ·trivial
   ·exact⟨rfl,rfl,hs⟩
  | ok e3 q3 l3 =>
   rw[zQ]at hr
   obtain⟨rfl,rfl,hh⟩:=hr
   exact Df hK m1 m2 k1 k2 hm l n _ _ q3 l3 hh
theorem z2Q{FQ SQ:Nat->Bool->zd->QR}{F S:Nat->Bool->zd->PR}(hF:∀ d l q,(FQ d l q).rel l (F d l q))(hS:∀ d l q,(SQ d l q).rel l (S d l q))(d:Nat)(l:Bool)(r:zd):(Cc FQ SQ d l r).rel l (Jh qo F S d l r):=by
 unfold Cc Jh
 cases e:h9 r with
 | nil=>exact⟨rfl,rfl⟩
 | cons c q =>
  dsimp only
  by_cases c45:c=45
  ·rw[if_pos c45,if_pos c45]
   by_cases c31:31<=d
   ·rw[if_pos c31,if_pos c31]; exact⟨rfl,rfl⟩
   ·rw[if_neg c31,if_neg c31]
    have hr:=hF (d+1) l q
    cases zP:F (d+1) l q with
    | no=>exact HV _ _
    | er k' b' r' d' l' =>
     rw[zP]at hr
     cases zQ:FQ (d+1) l q with
     | no=>rw[zQ]at hr; exact hr.elim
     | er k b x q2 d2 l2=>rw[zQ]at hr; exact hr
     | ok=>rw[zQ]at hr; exact hr.elim
    | ok e2 q2 l2 =>
     rw[zP]at hr
     cases zQ:FQ (d+1) l q with
     | no=>rw[zQ]at hr; exact hr.elim
     | er k b x q3 d3 l3=>rw[zQ]at hr; exact hr
     | ok e3 q3 l3 =>
      rw[zQ]at hr
      obtain⟨h1,h2,h3⟩:=hr
      exact⟨h1,h2,λh=>by grind⟩
  ·rw[if_neg c45,if_neg c45]
   by_cases c40:c=40
   ·rw[if_pos c40,if_pos c40]
    by_cases c31:31<=d
    ·rw[if_pos c31,if_pos c31]; exact⟨rfl,rfl⟩
    ·rw[if_neg c31,if_neg c31]
     have hr:=hS (d+1) l q
     cases zP:S (d+1) l q with
     | no=>exact HV _ _
     | er k' b' r' d' l' =>
      rw[zP]at hr
      cases zQ:SQ (d+1) l q with
      | no=>rw[zQ]at hr; exact hr.elim
      | er k b x q2 d2 l2=>rw[zQ]at hr; exact hr
      | ok=>rw[zQ]at hr; exact hr.elim
     | ok e2 q2 l2 =>
      rw[zP]at hr
      show QR.rel l _ (match jd [41] q2 with | some (_,q')=>.ok e2 q' l2 | none=>.er 2 (h9 q2) (h9 q2) (d+1) l2)
      cases zQ:SQ (d+1) l q with
      | no=>rw[zQ]at hr; exact hr.elim
      | er k b x q3 d3 l3 =>
       rw[zQ]at hr
       obtain⟨rfl,rfl,hs⟩:=hr
       obtain⟨h1,h2⟩:=J1 hs (m:=[41]) (by decide)
       rw[h1,h2]
       exact⟨rfl,rfl⟩
      | ok e3 q3 l3 =>
       rw[zQ]at hr
       obtain⟨rfl,rfl,h3⟩:=hr
       dsimp only
       cases jd [41] q3 with
       | none=>exact⟨rfl,rfl⟩
       | some x=>exact⟨rfl,rfl,h3⟩
   ·rw[if_neg c40,if_neg c40]
    by_cases hD:wE c=true
    ·rw[if_pos hD,if_pos hD]; exact z1U _ _ _
    ·rw[if_neg hD,if_neg hD]
     by_cases hL:Uy c=true
     ·rw[if_pos hL,if_pos hL]; exact z3T _ _ _
     ·rw[if_neg hL,if_neg hL]; exact⟨rfl,rfl⟩
theorem z0j:∀ (n:Nat),(∀ d l r,(qF n d l r).rel l (pF qo n d l r))/\(∀ d l r,(qP n d l r).rel l (pP qo n d l r))/\(∀ d l r,(qS n d l r).rel l (pS qo n d l r))
 | 0=>⟨λ_ _ _=>by unfold qF pF; trivial,λ_ _ _=>by unfold qP pP; trivial,λ_ _ _=>by unfold qS pS; trivial⟩
 | n+1=>by
  obtain⟨h1,h2,h3⟩:=z0j n
  refine⟨λd l r => ?_,λd l r => ?_,λd l r => ?_⟩
  ·unfold qF pF; exact z2Q h1 h3 d l r
  ·unfold qP pP; exact LM (h1 d) 42 47 5 6 (by decide) n l r
  ·unfold qS pS; exact LM (h2 d) 43 45 3 4 (by decide) n l r
def xZ(s r:zd)(e b:Int)(d:Nat)(l:Bool):zj:=(s,((xy s r:Nat):Int),e,b,(d:Int),l,())
theorem kc(s r:zd)(e b:Int)(d:Nat)(l:Bool):(xZ s r e b d l).1=s:=rfl
theorem uu(s r:zd)(e b:Int)(d:Nat)(l:Bool):(xZ s r e b d l).2.1=((xy s r:Nat):Int):=rfl
theorem Wf(s r:zd)(e b:Int)(d:Nat)(l:Bool):(xZ s r e b d l).2.2.1=e:=rfl
theorem z8T(s r:zd)(e b:Int)(d:Nat)(l:Bool):(xZ s r e b d l).2.2.2.1=b:=rfl
theorem z4F(s r:zd)(e b:Int)(d:Nat)(l:Bool):(xZ s r e b d l).2.2.2.2.1=(d:Int):=rfl
theorem zbc(s r:zd)(e b:Int)(d:Nat)(l:Bool):(xZ s r e b d l).2.2.2.2.2.1=l:=rfl
theorem fZ{s r:zd}{c:UInt8}(e b:Int)(d:Nat)(l:Bool)(h:(c::r) <:+ s)(hs:s.length<=1000000) :
  (((xZ s (c::r) e b d l).1,((zI ((xZ s (c::r) e b d l).2.1+(1:Int))),((xZ s (c::r) e b d l).2.2.1,((xZ s (c::r) e b d l).2.2.2.1,((xZ s (c::r) e b d l).2.2.2.2.1,((xZ s (c::r) e b d l).2.2.2.2.2.1,())))))):zj)=xZ s r e b d l:=by
 have:=ux h
 rw[uu,zA (by omega) (by omega),show((xy s (c::r):Nat):Int)+1=((xy s r:Nat):Int) by omega]
 rfl
theorem Qa(s:zd)(hs:s.length<=1000000)(e b:Int)(d:Nat)(l:Bool):∀ (r:zd),r <:+ s->(gC (xZ s r e b d l)).run=some (xZ s (h9 r) e b d l)
 | [],_=>by
  refine zL ?_
  unfold wc
  dsimp only
  rw[uu,kc,lW,zb (λh=>by cases h),z8 (by rfl),z7]
  rfl
 | c::r,h=>by
  have st:(wc (xZ s (c::r) e b d l)).run=some (if c=32 then .inl (xZ s r e b d l)else .inr (xZ s (c::r) e b d l)):=by
   unfold wc
   dsimp only
   rw[fZ e b d l h hs,uu,kc,dK h,zb (λ_=>jt h),Bool.true_and,vY h,show((c.toNat:Int)==32)=decide (c=32)from tb c 32]
   by_cases hc:c=32
   ·rw[za (by grind),z7,if_pos hc]
   ·rw[z8 (by grind),z7,if_neg hc]
  unfold h9
  by_cases hc:c=32
  ·rw[if_pos hc]at st ⊢
   exact(qu st).trans (Qa s hs e b d l r (wq h))
  ·rw[if_neg hc]at st ⊢
   exact zL st
theorem iP(s:zd)(hs:s.length<=1000000)(e b:Int)(d:Nat)(l:Bool)(r:zd)(h:r <:+ s):(w9 (xZ s r e b d l)).run=some (xZ s (h9 r) e b d l):=by
 unfold w9
 rw[z6 (Qa s hs e b d l r h),z7]
def hd5:zd->Int
 | []=>0
 | c::_=>(c.toNat:Int)
theorem Xl(s:zd)(hs:s.length<=1000000)(e b:Int)(d:Nat)(l:Bool)(r:zd)(h:r <:+ s):(xX (xZ s r e b d l)).run=some (if e=0 then hd5 (h9 r)else 0,xZ s (h9 r) e b d l):=by
 have hk:=(vD r).trans h
 unfold xX
 rw[z6 (iP s hs e b d l r h),Wf,uu,kc]
 by_cases he:e=0
 ·rw[if_pos he]
  have e1:(e != (0:Int))=false:=by simpa using he
  rw[e1,Bool.false_or]
  cases q:h9 r with
  | nil=>rw[za (decide_eq_true (by rw[CB]; omega)),z7]; rfl
  | cons c r' =>
   rw[q]at hk
   have:=ux hk
   rw[z8 (decide_eq_false (by omega)),zb (jt hk),z7,vY hk]
   rfl
 ·rw[if_neg he,za (by grind),z7]
theorem cw(k:Int)(s r:zd)(e b:Int)(d:Nat)(l:Bool):(xb k (xZ s r e b d l)).run=some (zE,if e=0 then xZ s r k ((xy s r:Nat):Int) d l else xZ s r e b d l):=by
 unfold xb
 rw[Wf]
 by_cases he:e=0
 ·rw[if_pos he,za (by grind),z7]; rfl
 ·rw[if_neg he,z8 (by grind),z7]
theorem DR(s:zd)(hs:s.length<=1000000){c:UInt8}{r:zd}(h:(c::r) <:+ s)(d:Nat)(hd:d<=31)(l:Bool):(vx (xZ s (c::r) 0 0 d l)).run=some (if 31<=d then(false,xZ s (c::r) 4 ((xy s (c::r):Nat):Int) d l)else(true,xZ s r 0 0 (d+1) l)):=by
 have hp:=ux h
 unfold vx
 rw[z4F,zA (x:=(d:Int)+1) (by omega) (by omega)]
 by_cases c1:31<=d
 ·rw[if_pos c1,za (decide_eq_true (by omega)),z6 (cw _ _ _ _ _ _ _),if_pos rfl,z7]
 ·rw[if_neg c1,z8 (decide_eq_false (by omega)),z7,uu,zA (by omega) (by omega),show((xy s (c::r):Nat):Int)+1=((xy s r:Nat):Int) by omega]
  rfl
theorem G2(s:zd)(hs:s.length<=1000000)(e b:Int)(d:Nat)(l:Bool)(r:zd)(h:r <:+ s):(jr 41 (xZ s r e b d l)).run=some (if e=0 then(match jd [41] r with | some (_,q)=>(true,xZ s q e b d l) | none=>(false,xZ s (h9 r) e b d l))else(false,xZ s (h9 r) e b d l)):=by
 have hk:=(vD r).trans h
 unfold jr jd
 rw[z6 (iP s hs e b d l r h),Wf,uu,kc]
 by_cases he:e=0
 ·have e1:(e==(0:Int))=true:=by simpa using he
  rw[if_pos he,e1,Bool.true_and]
  cases q:h9 r with
  | nil=>rw[lW,zb (λ_ h=>by cases h),z8 (by rfl),z7]
  | cons c r' =>
   rw[q]at hk
   have n1:=fZ e b d l hk hs
   rw[dK hk,zb (λ_ _=>jt hk),Bool.true_and,vY hk,show((c.toNat:Int)==41)=decide (c=41)from tb c 41]
   dsimp only
   by_cases hc:c=41
   ·rw[za (by grind),z7,if_pos (by grind)]
    exact congrArg (λz=>some (true,z)) n1
   ·rw[z8 (by grind),z7,if_neg (by grind)]
 ·have e1:(e==(0:Int))=false:=by simpa using he
  rw[if_neg he,e1,zb (λh=>by cases h),z8 (by rfl),z7]
theorem DG(b:UInt8):(uR (b.toNat:Int)).run=some (wE b):=sK b
theorem Yd(s:zd)(hs:s.length<=1000000)(e b:Int)(d:Nat)(l:Bool):∀ (r:zd) (n:Nat),r <:+ s->n+r.length<=1000000 ->
  (j3 ((n:Int),xZ s r e b d l)).run=some (((n+(r.takeWhile wE).length:Nat):Int),xZ s (r.dropWhile wE) e b d l)
 | [],n,_,_=>by
  refine zL ?_
  unfold wa
  rw[z6 (a:=(false,xZ s [] e b d l)) (by rw[uu,kc,lW,zf,z7]),zf,z7]
  rfl
 | c::r,n,h,hn=>by
  have st:(wa ((n:Int),xZ s (c::r) e b d l)).run=some (if wE c=true then .inl (((n+1:Nat):Int),xZ s r e b d l)else .inr ((n:Int),xZ s (c::r) e b d l)):=by
   unfold wa
   rw[z6 (a:=(wE c,xZ s (c::r) e b d l)) (by rw[uu,kc,dK h,zk,zb (jt h),vY h,z6 (DG c),z7])]
   cases wE c with
   | true =>
    rw[zk,z7,if_pos rfl,fZ e b d l h hs,zA (by omega) (by omega)]
    rfl
   | false=>rfl
  cases hc:wE c with
  | true =>
   rw[hc,if_pos rfl]at st
   rw[List.takeWhile_cons_of_pos hc,List.dropWhile_cons_of_pos hc]
   simp at hn
   have:=(qu st).trans (Yd s hs e b d l r (n+1) (wq h) (by omega))
   rw[show n+1+(r.takeWhile wE).length=n+(c::r.takeWhile wE).length by grind]at this
   exact this
  | false =>
   rw[hc,if_neg (by simp)]at st
   rw[List.takeWhile_cons_of_neg (by grind),List.dropWhile_cons_of_neg (by grind)]
   exact zL st
theorem G0(s:zd)(hs:s.length<=1000000)(e b:Int)(d:Nat)(l:Bool)(r:zd)(h:r <:+ s):(vn (xZ s r e b d l)).run=some ((((r.takeWhile wE).length:Nat):Int),xZ s (r.dropWhile wE) e b d l):=by
 unfold vn
 have:=Yd s hs e b d l r 0 h (by grind)
 rw[Nat.zero_add]at this
 have this:(j3 (0,xZ s r e b d l)).run=_:=this
 rw[z6 this,z7]
def nB(s:zd)(d:Nat):QR->Option (AM.Expr×zj)
 | .no=>none
 | .er k b x r d' l=>some (x,xZ s r k ((xy s b:Nat):Int) d' l)
 | .ok e r l=>some (e,xZ s r 0 0 d l)
theorem T6{u:zd}(h1:qX u=true)(h0:u≠[]):oi u≠none/\∀ q,qX q=true->q≠[]->oi (u++46::q)≠none:=by
 have tp:∀ t:zd,yU (u++t) [45]=u++t:=by
  cases u with
  | nil=>grind
  | cons c u =>
   have hc:wE c=true:=by rw[uz,Bool.and_eq_true]at h1; exact h1.1
   have h45:(45:UInt8)≠c:=by rintro rfl; revert hc; decide
   unfold yU
   grind
 constructor
 ·unfold oi
  have:=tp []
  rw[List.append_nil]at this
  rw[this,QJ h1,if_neg h0]
  simp
 ·intro q hq Lg
  unfold oi
  rw[tp,dy h1 46 q (by decide),if_neg h0,if_neg (by grind),if_pos rfl]
  simp
theorem BZ(s:zd)(hs:s.length<=1000000)(d:Nat)(l:Bool)(r:zd)(h:r <:+ s)(hd:r.takeWhile wE≠[]):(uD (xZ s r 0 0 d l)).run=nB s d (CV d r l):=by
 have Bs:=gS wE r
 have hl:=h.length_le
 have hw:=G0 s hs 0 0 d l r h
 have hdp:=T6 (Uu r) hd
 -- what is done with the text
 have fin:∀ (t q:zd),r=t++q->oi t≠none ->
   (.zy (vj (xZ s r 0 0 d l).2.1 (xZ s q 0 0 d l).2.1 (List.length (xZ s q 0 0 d l).1)) <|
   T.bind (ki (qC (xZ s r 0 0 d l).2.1 (xZ s q 0 0 d l).2.1 (xZ s q 0 0 d l).1)) λ(r7,e) =>
   T.bind (.ite (xZ s q 0 0 d l).2.2.2.2.2.1
      (.ret (((xZ s q 0 0 d l).1,((xZ s q 0 0 d l).2.1,((xZ s q 0 0 d l).2.2.1,((xZ s q 0 0 d l).2.2.2.1,((xZ s q 0 0 d l).2.2.2.2.1,(true,())))))),(zE,r7)))
      (.ret (((xZ s q 0 0 d l).1,((xZ s q 0 0 d l).2.1,((xZ s q 0 0 d l).2.2.1,((xZ s q 0 0 d l).2.2.2.1,((xZ s q 0 0 d l).2.2.2.2.1,((e != (0:Int)),())))))),(zE,r7))):T ((zj×AM.Expr×Rat))) λ(v4,v5,v6) =>
   .ret ((Expr.mk (1:Int) (v6.1,(v6.2.1,(v6.2.2.1,()))) ([]:zd) ([]:List AM.Expr)),v4):T (AM.Expr×zj)).run=nB s d (Hg t q l):=by
  intro t q e hp
  have hq:q <:+ r:=⟨t,e.symm⟩
  have h3:=GO hq h
  have h4:xy s q<=s.length:=by unfold xy; omega
  have hlen:t.length<=1000000:=by have:=congrArg List.length e; rw[List.length_append]at this; omega
  rw[uu,uu,kc,zb ⟨by omega,by omega,by omega⟩,Ux h e.symm]
  unfold Hg
  have hr3:=rm t (by omega)
  by_cases c1:400<t.length
  ·rw[if_pos c1]at hr3 ⊢
   rw[z6 hr3]
   cases l<;>rfl
  ·rw[if_neg c1]at hr3 ⊢
   unfold oe
   cases w:oi t with
   | none=>grind
   | some x =>
    rw[w]at hr3
    rw[z6 hr3]
    cases l<;>rfl
 unfold uD CV
 rw[z6 hw]
 dsimp only
 cases e:r.dropWhile wE with
 | nil =>
  have er:r=r.takeWhile wE++[]:=by rw[<- e,gn]
  rw[z6 (a:=.inl (xZ s [] 0 0 d l,zE)) (by rw[uu,kc,lW,zb (λh=>by cases h),Bool.false_and,zf,z7]),Sum.elim_inl]
  grind
 | cons c q =>
  have er:r=r.takeWhile wE++c::q:=by rw[<- e,gn]
  rw[e]at Bs
  have KO:=Bs.trans h
  have hq:=wq KO
  dsimp only
  by_cases hc:c=46
  ·subst hc
   rw[if_pos rfl]
   have sU:=G0 s hs 0 0 d l q hq
   have cond:((decide (((xy s (46::q):Nat):Int)<(s.length:Int)))&&((zt s ((xy s (46::q):Nat):Int))==(46:Int)))=true:=by
    rw[dK KO,Bool.true_and,vY KO]; rfl
   by_cases Lg:q.takeWhile wE=[]
   ·have hqq:q.dropWhile wE=q:=by have:=gn wE q; rw[Lg]at this; simpa using this
    rw[if_pos Lg,z6 (a:=.inr (xZ s q 2 ((xy s q:Nat):Int) d l,zE)),Sum.elim_inr]
    ·rfl
    ·rw[fZ 0 0 d l KO hs,uu,kc,zb (λ_=>jt KO),za cond,z6 sU,Lg,za (by rfl),hqq,z6 (cw _ _ _ _ _ _ _),if_pos rfl,z7]
   ·rw[if_neg Lg,z6 (a:=.inl (xZ s (q.dropWhile wE) 0 0 d l,zE)),Sum.elim_inl]
    ·refine fin _ _ ?_ (hdp.2 _ (Uu q) Lg)
     rw[List.append_assoc,List.cons_append,gn]
     exact er
    ·have hl0:(q.takeWhile wE).length≠0:=λh=>Lg (List.eq_nil_of_length_eq_zero h)
     rw[fZ 0 0 d l KO hs,uu,kc,zb (λ_=>jt KO),za cond,z6 sU,z8 (by simpa using Lg),z7]
  ·rw[if_neg hc,z6 (a:=.inl (xZ s (c::q) 0 0 d l,zE)),Sum.elim_inl]
   ·exact fin _ _ er hdp.1
   ·rw[uu,kc,zb (λ_=>jt KO),z8 (by rw[dK KO,Bool.true_and,vY KO,show((c.toNat:Int)==46)=decide (c=46)from tb c 46]; simpa using hc),z7]
theorem Es(s:zd)(hs:s.length<=1000000)(d:Nat)(l:Bool)(f:Nat):∀ (n:Nat) (r:zd),r <:+ s->f<=xy s r->xy s r-f+n=24 ->
  (cf (f:Int) (xZ s r 0 0 d l,zE)).run=some (if stuck (uK wb n r).2=true then .inr (xZ s (uK wb n r).2 2 ((xy s (uK wb n r).2:Nat):Int) d l,zE)else .inl (xZ s (uK wb n r).2 0 0 d l,zE)):=by
 intro n r
 induction r generalizing n with
 | nil =>
  intro h hf he
  have:(uK wb n []).2=[]:=by cases n<;>rfl
  rw[this,if_neg (by simp[stuck])]
  refine zL ?_
  unfold xO
  dsimp only
  rw[z6 (a:=(false,(xZ s [] 0 0 d l,zE))) (by rw[uu,kc,lW,zf,z7]),zf,z7]
 | cons c r ih =>
  intro h hf he
  have Zr:=ux h
  have head:((T.ite (decide ((xZ s (c::r) 0 0 d l).2.1<(Nat.cast (List.length (xZ s (c::r) 0 0 d l).1):Int)))
     (.zy (q9 (xZ s (c::r) 0 0 d l).2.1 (List.length (xZ s (c::r) 0 0 d l).1)) <|
      T.bind (wy (zt (xZ s (c::r) 0 0 d l).1 (xZ s (c::r) 0 0 d l).2.1)) λr1 =>
      .ite r1
       (.ret (true,(xZ s (c::r) 0 0 d l,zE)))
       (.zy (q9 (xZ s (c::r) 0 0 d l).2.1 (List.length (xZ s (c::r) 0 0 d l).1)) <|
        T.bind (uR (zt (xZ s (c::r) 0 0 d l).1 (xZ s (c::r) 0 0 d l).2.1)) λr2 =>
        .ite r2
         (.ret (true,(xZ s (c::r) 0 0 d l,zE)))
         (.zy (q9 (xZ s (c::r) 0 0 d l).2.1 (List.length (xZ s (c::r) 0 0 d l).1)) <|
          .ret (((zt (xZ s (c::r) 0 0 d l).1 (xZ s (c::r) 0 0 d l).2.1)==(95:Int)),(xZ s (c::r) 0 0 d l,zE)))))
     (.ret (false,(xZ s (c::r) 0 0 d l,zE)))):T (Bool×zj×AM.Expr)).run=some (wb c,(xZ s (c::r) 0 0 d l,zE)):=by
   have h1:(wy (c.toNat:Int)).run=some (Uy c):=rfl
   have h2:(uR (c.toNat:Int)).run=some (decide (48<=(c.toNat:Int))&&decide ((c.toNat:Int)<=57)):=rfl
   rw[uu,kc,dK h,zk,zb (jt h),vY h,z6 h1]
   unfold wb
   cases Uy c with
   | true=>rfl
   | false =>
    rw[zf,zb (jt h),z6 h2]
    cases(decide (48<=(c.toNat:Int))&&decide ((c.toNat:Int)<=57))with
    | true=>rfl
    | false=>rw[zf,zb (jt h),z7]; rfl
  cases hc:wb c with
  | false =>
   have:(uK wb n (c::r)).2=c::r:=by
    cases n with
    | zero=>rfl
    | succ n=>show(if wb c=true then _ else([],c::r)).2=c::r; rw[if_neg (by simp[hc])]
   rw[this,if_neg (by simp[stuck,hc])]
   refine zL ?_
   unfold xO
   dsimp only
   rw[z6 head,hc]
   rfl
  | true =>
   cases n with
   | zero =>
    have:(uK wb 0 (c::r)).2=c::r:=rfl
    rw[this,if_pos (show stuck (c::r)=true from hc)]
    refine zL ?_
    unfold xO
    dsimp only
    rw[z6 head,hc]
    dsimp only
    rw[zk,uu,zA (by omega) (by omega),show((xy s (c::r):Nat):Int)-(f:Int)=24 by omega,za (by rfl),z6 (cw _ _ _ _ _ _ _),if_pos rfl,z7]
   | succ n =>
    have e2:(uK wb (n+1) (c::r)).2=(uK wb n r).2:=by
     show(if wb c=true then(c::(uK wb n r).1,(uK wb n r).2)else([],c::r)).2=_; rw[if_pos hc]
    rw[e2]
    refine(qu ?_).trans (ih n (wq h) (by omega) (by omega))
    unfold xO
    dsimp only
    rw[z6 head,hc]
    dsimp only
    rw[zk,fZ 0 0 d l h hs,uu,zA (by omega) (by omega),z8 (by rw[beq_eq_false_iff_ne]; omega),z7]
theorem Oo(s:zd)(hs:s.length<=1000000)(d:Nat)(l:Bool)(r:zd)(h:r <:+ s):(jo (xZ s r 0 0 d l)).run=nB s d (De d r l):=by
 have h3:=GO (Xb wb 24 r) h
 have h4:xy s (uK wb 24 r).2<=s.length:=by unfold xy; omega
 unfold jo De
 rw[uu,z6 (Es s hs d l (xy s r) 24 r h (Nat.le_refl _) (by omega))]
 by_cases hc:stuck (uK wb 24 r).2=true
 ·rw[if_pos hc,if_pos hc,Sum.elim_inr]; rfl
 ·rw[if_neg hc,if_neg hc,Sum.elim_inl]
  dsimp only
  rw[uu,kc,zb ⟨by omega,by omega,by omega⟩,z7,Ux h (pN wb 24 r)]
  rfl
def QR.om(s:zd)(d:Nat):QR->Prop
 | .no=>True
 | .er k b _ r d' _=>k≠0/\b <:+ s/\r <:+ s/\d<=d'/\d'<=1000
 | .ok _ r _=>r <:+ s
theorem UB{s r t:zd}{l:Bool}{d:Nat}(h:r <:+ s):(Hg t r l).om s d:=by unfold Hg; split<;>exact h
theorem PS{s r:zd}{d:Nat}{l:Bool}(hd:d<=31)(h:r <:+ s):(CV d r l).om s d:=by
 have Bs:=gS wE r
 unfold CV
 cases e:r.dropWhile wE with
 | nil=>exact UB List.nil_suffix
 | cons c q =>
  rw[e]at Bs
  have hq:=(wq Bs).trans h
  dsimp only
  split
  ·split
   ·exact⟨by decide,hq,hq,Nat.le_refl _,by omega⟩
   ·exact UB ((gS wE q).trans hq)
  ·exact UB (Bs.trans h)
theorem YP{s:zd}{d:Nat}{K:Bool->zd->QR}(hK:∀ l r,r <:+ s->(K l r).om s d)(m1 m2:UInt8)(k1 k2:Int):∀ (n:Nat) (e:Expr) (r:zd) (l:Bool),r <:+ s->(tK K m1 m2 k1 k2 n e r l).om s d
 | 0,_,_,_,_=>trivial
 | n+1,e,r,l,h=>by
  unfold tK
  cases ht:jd [m1,m2] r with
  | none=>exact(vD r).trans h
  | some x =>
   obtain⟨c,q⟩:=x
   have hq:=(wq (gG ht).1).trans h
   have:=hK l q hq
   dsimp only
   cases z:K l q with
   | no=>trivial
   | er k b x q2 d2 l2=>rw[z]at this; exact⟨this.1,this.2.1,(vD q2).trans this.2.2.1,this.2.2.2⟩
   | ok e2 q2 l2=>rw[z]at this; exact YP hK m1 m2 k1 k2 n _ q2 l2 this
theorem C5{s:zd}{d:Nat}{K:Bool->zd->QR}(hK:∀ l r,r <:+ s->(K l r).om s d)(m1 m2:UInt8)(k1 k2:Int)(n:Nat)(l:Bool)(r:zd)(h:r <:+ s):(Hr K m1 m2 k1 k2 n l r).om s d:=by
 unfold Hr
 have:=hK l r h
 cases z:K l r with
 | no=>trivial
 | er k b x q2 d2 l2=>rw[z]at this; exact⟨this.1,this.2.1,(vD q2).trans this.2.2.1,this.2.2.2⟩
 | ok e2 q2 l2=>rw[z]at this; exact YP hK m1 m2 k1 k2 n _ q2 l2 this
theorem Rq{s:zd}{F S:Nat->Bool->zd->QR}(hF:∀ d l r,d<=31->r <:+ s->(F d l r).om s d)(hS:∀ d l r,d<=31->r <:+ s->(S d l r).om s d)(d:Nat)(l:Bool)(r:zd)(hd:d<=31)(h:r <:+ s):(Cc F S d l r).om s d:=by
 have hk:=(vD r).trans h
 unfold Cc
 cases e:h9 r with
 | nil=>exact⟨by decide,List.nil_suffix,List.nil_suffix,Nat.le_refl _,by omega⟩
 | cons c q =>
  rw[e]at hk
  have hq:=wq hk
  dsimp only
  split
  ·split
   ·exact⟨by decide,hk,hk,Nat.le_refl _,by omega⟩
   ·have:=hF (d+1) l q (by omega) hq
    cases z:F (d+1) l q with
    | no=>trivial
    | er k b x q2 d2 l2=>rw[z]at this; exact⟨this.1,this.2.1,this.2.2.1,by have:=this.2.2.2.1; omega,by have:=this.2.2.2.2; omega⟩
    | ok e2 q2 l2=>rw[z]at this; exact this
  ·split
   ·split
    ·exact⟨by decide,hk,hk,Nat.le_refl _,by omega⟩
    ·have:=hS (d+1) l q (by omega) hq
     cases z:S (d+1) l q with
     | no=>trivial
     | er k b x q2 d2 l2=>rw[z]at this; exact⟨this.1,this.2.1,(vD q2).trans this.2.2.1,by have:=this.2.2.2.1; omega,this.2.2.2.2⟩
     | ok e2 q2 l2 =>
      rw[z]at this
      show QR.om s d (match jd [41] q2 with | some (_,q')=>.ok e2 q' l2 | none=>.er 2 (h9 q2) zE (h9 q2) (d+1) l2)
      cases w:jd [41] q2 with
      | none=>exact⟨by decide,(vD q2).trans this,(vD q2).trans this,by omega,by omega⟩
      | some x=>exact(wq (gG w).1).trans this
   ·split
    ·exact PS hd hk
    ·split
     ·unfold De
      have:=(Xb wb 24 (c::q)).trans hk
      split
      ·exact⟨by decide,this,this,Nat.le_refl _,by omega⟩
      ·exact this
     ·exact⟨by decide,hk,hk,Nat.le_refl _,by omega⟩
theorem Xx(s:zd):∀ (n:Nat),(∀ d l r,d<=31->r <:+ s->(qF n d l r).om s d)/\(∀ d l r,d<=31->r <:+ s->(qP n d l r).om s d)/\(∀ d l r,d<=31->r <:+ s->(qS n d l r).om s d)
 | 0=>⟨λ_ _ _ _ _=>by unfold qF; trivial,λ_ _ _ _ _=>by unfold qP; trivial,λ_ _ _ _ _=>by unfold qS; trivial⟩
 | n+1=>by
  obtain⟨h1,h2,h3⟩:=Xx s n
  refine⟨λd l r hd h => ?_,λd l r hd h => ?_,λd l r hd h => ?_⟩
  ·unfold qF; exact Rq h1 h3 d l r hd h
  ·unfold qP; exact C5 (λl r h=>h1 d l r hd h) _ _ _ _ n l r h
  ·unfold qS; exact C5 (λl r h=>h2 d l r hd h) _ _ _ _ n l r h
abbrev KR:=zj->T (AM.Expr×zj)
noncomputable def p0 (K:KR) (m1 m2:Int) (k1 k2:Int):(zj×AM.Expr×AM.Expr)->T ((zj×AM.Expr×AM.Expr)⊕((zj×AM.Expr×AM.Expr)))
 | (v,v1,v2) =>
  T.bind (xX v) λ(r3,r4) =>
  .ite (r3==m1)
   (T.bind (K (r4.1,((zI (r4.2.1+(1:Int))),(r4.2.2.1,(r4.2.2.2.1,(r4.2.2.2.2.1,(r4.2.2.2.2.2.1,()))))))) λ(r5,r6) =>
    T.bind (fm k1 v2 r5) λr7 =>
    .ret (.inl (r6,(v1,r7))))
   (.ite (r3==m2)
     (T.bind (K (r4.1,((zI (r4.2.1+(1:Int))),(r4.2.2.1,(r4.2.2.2.1,(r4.2.2.2.2.1,(r4.2.2.2.2.2.1,()))))))) λ(r8,r9) =>
      T.bind (fm k2 v2 r8) λr10 =>
      .ret (.inl (r9,(v1,r10))))
     (.ret (.inr (r4,(v2,v2)))))
noncomputable def z5D (K:KR) (m1 m2:Int) (k1 k2:Int) (r:zj):T (AM.Expr×zj) :=
 T.bind (K r) λ(r1,r2) =>
 T.bind (T.loop (p0 K m1 m2 k1 k2) (r2,(zE,r1))) λ(v3,v4,v5) =>
 .ret (v4,v3)
theorem DB(s:zd)(hs:s.length<=1000000)(K:KR)(m1 m2:UInt8)(ON:m1≠0)(KB:m2≠0)(k1 k2:Int)(r:zd)(h:r <:+ s)(k b:Int)(hk:k≠0)(d:Nat)(l:Bool)(e:Expr) :
  (T.loop (p0 K (m1.toNat:Int) (m2.toNat:Int) k1 k2) (xZ s r k b d l,(zE,e))).run=some (xZ s (h9 r) k b d l,(e,e)):=by
 refine zL ?_
 unfold p0
 rw[z6 (Xl s hs k b d l r h),if_neg hk]
 have z:∀ m:UInt8,m≠0->((0:Int)==(m.toNat:Int))=false:=λm hm=>by
  rw[show((0:Int)==(m.toNat:Int))=decide (0=m)from tb 0 m]
  grind
 rw[z8 (z m1 ON),z8 (z m2 KB),z7]
theorem YY(s:zd)(hs:s.length<=1000000)(d:Nat)(K:KR)(Ks:Bool->zd->QR)(hK:∀ l r,r <:+ s->Ks l r≠.no->(K (xZ s r 0 0 d l)).run=nB s d (Ks l r))(hx:∀ l r,r <:+ s->(Ks l r).om s d)(m1 m2:UInt8)(ON:m1≠0)(KB:m2≠0)(hm:m1≠m2)(k1 k2:Int) :
  ∀ (n:Nat) (e:Expr) (r:zd) (l:Bool),r <:+ s->tK Ks m1 m2 k1 k2 n e r l≠.no ->
   match tK Ks m1 m2 k1 k2 n e r l with
   | .no=>True
   | .ok e' r' l'=>(T.loop (p0 K (m1.toNat:Int) (m2.toNat:Int) k1 k2) (xZ s r 0 0 d l,(zE,e))).run=some (xZ s r' 0 0 d l',(e',e'))
   | .er k b x r' d' l'=>(T.loop (p0 K (m1.toNat:Int) (m2.toNat:Int) k1 k2) (xZ s r 0 0 d l,(zE,e))).run=some (xZ s r' k ((xy s b:Nat):Int) d' l',(x,x))
 | 0,_,_,_,_,hn=>absurd rfl hn
 | n+1,e,r,l,h,hn=>by
  have ht:=Xl s hs 0 0 d l r h
  rw[if_pos rfl]at ht
  have hk:=(vD r).trans h
  have uh:∀ c:UInt8,jd [m1,m2] r=none->hd5 (h9 r)=(c.toNat:Int)->c≠m1/\c≠m2:=by
   intro c q hc
   unfold jd at q
   cases w:h9 r with
   | nil =>
    rw[w]at hc
    have:c=0:=by
     have h0:((c.toNat:Int))=0:=hc.symm
     have:=tb c 0
     grind
    grind
   | cons c' q' =>
    rw[w]at hc q
    have RY:c'=c:=by
     have hc:(c'.toNat:Int)=(c.toNat:Int):=hc
     have:=tb c' c
     grind
    grind
  unfold tK at hn ⊢
  cases q:jd [m1,m2] r with
  | none =>
   dsimp only
   refine zL ?_
   unfold p0
   dsimp only
   rw[z6 ht]
   dsimp only
   obtain⟨c,hc⟩:∃ c:UInt8,hd5 (h9 r)=(c.toNat:Int):=by
    cases h9 r with
    | nil=>exact⟨0,rfl⟩
    | cons c _=>exact⟨c,rfl⟩
   obtain⟨n1,n2⟩:=uh c q hc
   rw[hc,z8 (by rw[tb]; exact decide_eq_false n1),z8 (by rw[tb]; exact decide_eq_false n2),z7]
  | some x =>
   obtain⟨c,q'⟩:=x
   rw[q]at hn
   dsimp only at hn ⊢
   have hsf:=gG q
   rw[hsf.2.2]at ht hk
   have hq:=wq hk
   have Z9:=hK l q' hq
   have Zt:=hx l q' hq
   have Fa:c=m1\/c=m2:=by simpa using hsf.2.1
   have step:∀ e2 R2,(K (xZ s q' 0 0 d l)).run=some (e2,R2)->(p0 K (m1.toNat:Int) (m2.toNat:Int) k1 k2 (xZ s r 0 0 d l,(zE,e))).run=some (.inl (R2,(zE,iC (if c=m1 then k1 else k2) [e,e2]))):=by
    intro e2 R2 cq
    unfold p0
    dsimp only
    rw[z6 ht]
    dsimp only
    rw[fZ 0 0 d l hk hs]
    show(T.ite ((c.toNat:Int)==(m1.toNat:Int)) _ (T.ite ((c.toNat:Int)==(m2.toNat:Int)) _ _)).run=_
    rw[tb,tb]
    by_cases hc:c=m1
    ·rw[if_pos hc,za (decide_eq_true hc),z6 cq]
     rfl
    ·have h2:c=m2:=by rcases Fa with h | h; exact absurd h hc; exact h
     rw[if_neg hc,z8 (decide_eq_false hc),za (decide_eq_true h2),z6 cq]
     rfl
   cases z:Ks l q' with
   | no=>rw[z]at hn; exact absurd rfl hn
   | er k b x r' d' l' =>
    rw[z]at Z9 Zt
    have Z9:=Z9 (by simp)
    dsimp only
    rw[qu (step _ _ Z9)]
    exact DB s hs K m1 m2 ON KB k1 k2 r' Zt.2.2.1 k _ Zt.1 d' l' _
   | ok e2 r2 l2 =>
    rw[z]at Z9 hn Zt
    have Z9:=Z9 (by simp)
    dsimp only at hn ⊢
    rw[qu (step _ _ Z9)]
    exact YY s hs d K Ks hK hx m1 m2 ON KB hm k1 k2 n _ r2 l2 Zt hn
theorem YD(s:zd)(hs:s.length<=1000000)(d:Nat)(K:KR)(Ks:Bool->zd->QR)(hK:∀ l r,r <:+ s->Ks l r≠.no->(K (xZ s r 0 0 d l)).run=nB s d (Ks l r))(hx:∀ l r,r <:+ s->(Ks l r).om s d)(m1 m2:UInt8)(ON:m1≠0)(KB:m2≠0)(hm:m1≠m2)(k1 k2:Int)
  (n:Nat) (l:Bool) (r:zd) (h:r <:+ s) (hn:Hr Ks m1 m2 k1 k2 n l r≠.no):(z5D K (m1.toNat:Int) (m2.toNat:Int) k1 k2 (xZ s r 0 0 d l)).run=nB s d (Hr Ks m1 m2 k1 k2 n l r):=by
 have Z9:=hK l r h
 have Zt:=hx l r h
 unfold z5D
 unfold Hr at hn ⊢
 cases z:Ks l r with
 | no=>grind
 | er k b x r' d' l' =>
  rw[z]at Z9 Zt
  rw[z6 (Z9 (by simp))]
  rw[z6 (DB s hs K m1 m2 ON KB k1 k2 r' Zt.2.2.1 k _ Zt.1 d' l' _)]
  rfl
 | ok e r' l' =>
  rw[z]at Z9 hn Zt
  have Z9:=Z9 (by simp)
  dsimp only at hn ⊢
  have hl:=YY s hs d K Ks hK hx m1 m2 ON KB hm k1 k2 n e r' l' Zt hn
  rw[z6 Z9]
  cases w:tK Ks m1 m2 k1 k2 n e r' l' with
  | no=>grind
  | er k b x r2 d2 l2 =>
   rw[w]at hl
   rw[z6 hl]
   rfl
  | ok e2 r2 l2 =>
   rw[w]at hl
   rw[z6 hl]
   rfl
theorem Bf(s:zd)(hs:s.length<=1000000)(FT ST:KR)(F S:Nat->Bool->zd->QR)
  (hF:∀ d l r,d<=31->r <:+ s->F d l r≠.no->(FT (xZ s r 0 0 d l)).run=nB s d (F d l r)) (hS:∀ d l r,d<=31->r <:+ s->S d l r≠.no->(ST (xZ s r 0 0 d l)).run=nB s d (S d l r))
  (xF:∀ d l r,d<=31->r <:+ s->(F d l r).om s d) (xS:∀ d l r,d<=31->r <:+ s->(S d l r).om s d) (d:Nat) (l:Bool) (r:zd) (hd:d<=31) (h:r <:+ s) (hn:Cc F S d l r≠.no):(wu FT ST (xZ s r 0 0 d l)).run=nB s d (Cc F S d l r):=by
 have ht:=Xl s hs 0 0 d l r h
 rw[if_pos rfl]at ht
 have hk:=(vD r).trans h
 unfold wu
 unfold Cc at hn ⊢
 have down:∀ (q:zd) (k b:Int) (d':Nat) (l':Bool),1<=d'->d'<=1000->(((xZ s q k b d' l').1,((xZ s q k b d' l').2.1,((xZ s q k b d' l').2.2.1,((xZ s q k b d' l').2.2.2.1,((zI ((xZ s q k b d' l').2.2.2.2.1-(1:Int))),((xZ s q k b d' l').2.2.2.2.2.1,())))))):zj)=xZ s q k b (d'-1) l':=by
  intro q k b d' l' h1 h2
  rw[z4F,zA (by omega) (by omega),show(d':Int)-1=((d'-1:Nat):Int) by omega]
  rfl
 rw[z6 ht]
 dsimp only
 cases e:h9 r with
 | nil =>
  rfl
 | cons c q =>
  rw[e]at hn hk
  have hq:=wq hk
  dsimp only at hn ⊢
  have hw:=DR s hs hk d hd l
  rw[show hd5 (c::q)=(c.toNat:Int)from rfl,show((c.toNat:Int)==45)=decide (c=45)from tb c 45,show((c.toNat:Int)==40)=decide (c=40)from tb c 40]
  by_cases c45:c=45
  ·rw[if_pos c45]at hn ⊢
   rw[za (decide_eq_true c45),z6 hw]
   by_cases c31:31<=d
   ·rw[if_pos c31,if_pos c31]; rfl
   ·rw[if_neg c31]at hn
    rw[if_neg c31,if_neg c31]
    dsimp only
    rw[z8 (by rfl)]
    have hf:=hF (d+1) l q (by omega) hq
    have xf:=xF (d+1) l q (by omega) hq
    cases z:F (d+1) l q with
    | no=>grind
    | er k b x r' d' l' =>
     rw[z]at hf xf
     rw[z6 (hf (by simp))]
     dsimp only
     rw[z7,down _ _ _ _ _ (by have:=xf.2.2.2.1; omega) xf.2.2.2.2]
     rfl
    | ok e2 r2 l2 =>
     rw[z]at hf
     rw[z6 (hf (by simp))]
     dsimp only
     rw[z7,down _ _ _ _ _ (by omega) (by omega)]
     rfl
  ·rw[if_neg c45]at hn ⊢
   rw[z8 (decide_eq_false c45)]
   by_cases c40:c=40
   ·rw[if_pos c40]at hn ⊢
    rw[za (decide_eq_true c40),z6 hw]
    by_cases c31:31<=d
    ·rw[if_pos c31,if_pos c31]; rfl
    ·rw[if_neg c31]at hn
     rw[if_neg c31,if_neg c31]
     dsimp only
     rw[z8 (by rfl)]
     have hf:=hS (d+1) l q (by omega) hq
     have xf:=xS (d+1) l q (by omega) hq
     cases z:S (d+1) l q with
     | no=>rw[z]at hn; exact absurd rfl hn
     | er k b x r' d' l' =>
      rw[z]at hf xf
      rw[z6 (hf (by simp))]
      dsimp only
      have FB:=G2 s hs k ((xy s b:Nat):Int) d' l' r' xf.2.2.1
      rw[if_neg xf.1]at FB
      rw[z6 FB]
      dsimp only
      rw[za (by rfl),z6 (cw _ _ _ _ _ _ _),if_neg xf.1]
      rfl
     | ok e2 r2 l2 =>
      rw[z]at hf xf
      rw[z6 (hf (by simp))]
      dsimp only
      have FB:=G2 s hs 0 0 (d+1) l2 r2 xf
      rw[if_pos rfl]at FB
      rw[z6 FB]
      cases w:jd [41] r2 with
      | none =>
       dsimp only
       rw[za (by rfl),z6 (cw _ _ _ _ _ _ _),if_pos rfl]
       rfl
      | some x =>
       obtain⟨c',q'⟩:=x
       dsimp only
       rw[z8 (by rfl),z7,down _ _ _ _ _ (by omega) (by omega)]
       rfl
   ·rw[if_neg c40]at hn ⊢
    rw[z8 (decide_eq_false c40),z6 (DG c)]
    cases hD:wE c with
    | true =>
     rw[if_pos rfl,zk]
     have oX:=BZ s hs d l (c::q) hk (by rw[List.takeWhile_cons_of_pos hD]; simp)
     cases z:CV d (c::q) l with
     | no =>
      exfalso
      rw[if_pos hD,z]at hn
      exact hn rfl
     | er k b x r' d' l'=>rw[z]at oX; rw[z6 oX]; rfl
     | ok e2 r2 l2=>rw[z]at oX; rw[z6 oX]; rfl
    | false =>
     rw[if_neg (by simp),zf]
     have h1:(wy (c.toNat:Int)).run=some (Uy c):=rfl
     rw[z6 h1]
     cases hL:Uy c with
     | true =>
      rw[if_pos rfl,zk]
      have z22:=Oo s hs d l (c::q) hk
      cases z:De d (c::q) l with
      | no=>exfalso; unfold De at z; split at z<;>cases z
      | er k b x r' d' l'=>rw[z]at z22; rw[z6 z22]; rfl
      | ok e2 r2 l2=>rw[z]at z22; rw[z6 z22]; rfl
     | false =>
      rw[if_neg (by simp),zf,z6 (cw _ _ _ _ _ _ _),if_pos rfl]
      rfl
theorem sy{s:zd}{d:Nat}{R:QR}(h:R≠.no):∃ y,nB s d R=some y:=by
 cases R with
 | no=>grind
 | er=>exact⟨_,rfl⟩
 | ok=>exact⟨_,rfl⟩
theorem E3(s:zd)(hs:s.length<=1000000)(ST:KR)(N:Nat)(hS:∀ m,m<=N->∀ d l r,d<=31->r <:+ s->qS m d l r≠.no->(ST (xZ s r 0 0 d l)).run=nB s d (qS m d l r))
  (n:Nat) (hn:n<=N+1) (d:Nat) (l:Bool) (r:zd) (hd:d<=31) (h:r <:+ s) (kf:qF n d l r≠.no):(vi ST (xZ s r 0 0 d l)).run=nB s d (qF n d l r):=by
 obtain⟨y,hy⟩:=sy (s:=s) (d:=d) kf
 rw[hy]
 refine T.Vy (λn x y=>n<=N+1/\∃ d l r,d<=31/\r <:+ s/\x=xZ s r 0 0 d l/\qF n d l r≠.no/\nB s d (qF n d l r)=some y) (λx y => ?_) (λn x y hx g hg => ?_) (n:=n) ⟨hn,d,l,r,hd,h,rfl,kf,hy⟩
 ·nofun
 ·obtain⟨hn,d,l,r,hd,h,rfl,kf,hy⟩:=hx
  rw[<- hy]
  have hgF:∀ d l r,d<=31->r <:+ s->qF n d l r≠.no->(g (xZ s r 0 0 d l)).run=nB s d (qF n d l r):=by
   intro d l r hd h kf
   obtain⟨y,hy⟩:=sy (s:=s) (d:=d) kf
   grind
  exact Bf s hs (λy0=>g y0) ST (qF n) (qS n) hgF (hS n (by omega)) (Xx s n).1 (Xx s n).2.2 d l r hd h kf
theorem Gw(s:zd)(hs:s.length<=1000000)(ST:KR)(N:Nat)(hS:∀ m,m<=N->∀ d l r,d<=31->r <:+ s->qS m d l r≠.no->(ST (xZ s r 0 0 d l)).run=nB s d (qS m d l r))
  (n:Nat) (hn:n<=N+1) (d:Nat) (l:Bool) (r:zd) (hd:d<=31) (h:r <:+ s) (kf:qP n d l r≠.no):(wO ST (xZ s r 0 0 d l)).run=nB s d (qP n d l r):=by
 cases n with
 | zero=>exact absurd (by rfl) kf
 | succ n =>
  exact YD s hs d (vi ST) (qF n d) (λl r h kf=>E3 s hs ST N hS n (by omega) d l r hd h kf) (λl r h=>(Xx s n).1 d l r hd h) 42 47 (by decide) (by decide) (by decide) 5 6 n l r h kf
theorem PF(s:zd)(hs:s.length<=1000000)(n:Nat)(d:Nat)(l:Bool)(r:zd)(hd:d<=31)(h:r <:+ s)(kf:qS n d l r≠.no):(uM (xZ s r 0 0 d l)).run=nB s d (qS n d l r):=by
 unfold uM
 obtain⟨y,hy⟩:=sy (s:=s) (d:=d) kf
 rw[hy]
 refine T.Vy (λn x y=>∃ m,m<=n/\∃ d l r,d<=31/\r <:+ s/\x=xZ s r 0 0 d l/\qS m d l r≠.no/\nB s d (qS m d l r)=some y) (λx y => ?_) (λn x y hx g hg => ?_) (n:=n) ⟨n,Nat.le_refl _,d,l,r,hd,h,rfl,kf,hy⟩
 ·rintro⟨m,hm,d,l,r,_,_,_,h,_⟩
  have:m=0:=by omega
  subst this
  exact h (by unfold qS; rfl)
 ·obtain⟨m,hm,d,l,r,hd,h,rfl,kf,hy⟩:=hx
  rw[<- hy]
  cases m with
  | zero=>exact absurd (by unfold qS; rfl) kf
  | succ m =>
   have hg2:∀ k,k<=m->∀ d l r,d<=31->r <:+ s->qS k d l r≠.no->(g (xZ s r 0 0 d l)).run=nB s d (qS k d l r):=by
    intro k hk d l r hd h kf
    obtain⟨y,hy⟩:=sy (s:=s) (d:=d) kf
    grind
   exact YD s hs d (wO λy0=>g y0) (qP m d) (λl r h kf=>Gw s hs (λy0=>g y0) m hg2 m (by omega) d l r hd h kf) (λl r h=>(Xx s m).2.1 d l r hd h) 43 45 (by decide) (by decide) (by decide) 3 4 m l r h kf
theorem Ix(K:Bool->zd->PR)(m1 m2:UInt8)(k1 k2:Int):∀ (n:Nat) (e:Expr) (r:zd) (l:Bool) (e':Expr) (r':zd) (l':Bool),fN K m1 m2 k1 k2 n e r l=.ok e' r' l'->h9 r'=r'
 | 0,_,_,_,_,_,_,h=>by cases h
 | n+1,e,r,l,e',r',l',h=>by
  unfold fN at h
  split at h
  ·cases h; exact TF r
  ·rename_i c q ht
   cases z:K l q with
   | no=>rw[z]at h; cases h
   | er=>rw[z]at h; cases h
   | ok e2 q2 l2=>rw[z]at h; exact Ix K m1 m2 k1 k2 n _ q2 l2 e' r' l' h
theorem z2W{z:Rat}{s:zd}{e:Expr}{r:zd}{l:Bool}(h:ik z s=.ok e r l):h9 r=r:=by
 unfold ik pS rowP at h
 generalize 3*s.length+2=n at h
 cases w:pP z n 0 false s with
 | no=>rw[w]at h; cases h
 | er=>rw[w]at h; cases h
 | ok e2 q2 l2=>rw[w]at h; exact Ix _ _ _ _ _ n _ _ _ _ _ _ h
theorem pJ(s:zd)(hs:s.length<=90000):(jk s).run=some (qB s):=by
 have kf:=Lv jL s
 have hg0:=W2 jL s
 have hsP:=Cw qo s
 have hrel:(qS (3*s.length+3) 0 false s).rel false (ik qo s):=(z0j (3*s.length+3)).2.2 0 false s
 have hsQ:=(Xx s (3*s.length+3)).2.2 0 false s (by omega) (List.suffix_refl s)
 have zfd:qS (3*s.length+3) 0 false s≠.no:=by
  intro h
  rw[h]at hrel
  cases w:ik qo s with
  | no=>exact kf w
  | er=>rw[w]at hrel; exact hrel
  | ok=>rw[w]at hrel; exact hrel
 have wX:=PF s (by omega) (3*s.length+3) 0 false s (by omega) (List.suffix_refl s) zfd
 have e0:xZ s s 0 0 0 false=(s,((0:Int),((0:Int),((0:Int),((0:Int),(false,())))))):=by unfold xZ; rw[YR]; rfl
 rw[e0]at wX
 -- an error is met
 have zbj:∀ (k:Int) (b r:zd) (x:Expr) (d:Nat) (l:Bool),k≠0->(b <:+ s)->(r <:+ s)->(uM (s,((0:Int),((0:Int),((0:Int),((0:Int),(false,()))))))).run=some (x,xZ s r k ((xy s b:Nat):Int) d l)->(jk s).run=some (zE,(((xy s b:Nat):Int),k)):=by
  intro k b r x d l hk hb hr h
  unfold jk
  rw[z6 h]
  dsimp only
  rw[z6 (iP s (by omega) k _ d l r hr)]
  rw[z6 (a:=(zE,(xZ s (h9 r) k ((xy s b:Nat):Int) d l,x))) (by rw[Wf,z8 (by rw[show(k==(0:Int))=false by simpa using hk]; rfl),z7])]
  dsimp only
  rw[Wf,z8T,za (by simpa using hk),z7]
 unfold qB
 cases wP:ik qo s with
 | no=>grind
 | er k b r d l =>
  rw[wP]at hrel
  cases wQ:qS (3*s.length+3) 0 false s with
  | no=>grind
  | ok=>rw[wQ]at hrel; exact hrel.elim
  | er k' b' x r' d' l' =>
   rw[wQ]at hrel wX hsQ
   obtain⟨rfl,rfl⟩:=hrel
   rw[zbj k' b' r' x d' l' hsQ.1 hsQ.2.1 hsQ.2.2.1 wX]
   unfold Ci pY
   dsimp only
   rw[if_pos hsQ.1]
 | ok e r l =>
  rw[wP]at hrel hsP hg0
  have hsk:=z2W wP
  cases wQ:qS (3*s.length+3) 0 false s with
  | no=>grind
  | er k' b' x r' d' l' =>
   rw[wQ]at hrel wX hsQ
   obtain⟨rfl,rfl,xR⟩:=hrel
   rw[zbj 2 b' r' x d' l' hsQ.1 hsQ.2.1 hsQ.2.2.1 wX]
   cases b' with
   | nil=>cases xR
   | cons c q =>
    rfl
  | ok e' r' l' =>
   rw[wQ]at hrel wX
   obtain⟨rfl,rfl,hee⟩:=hrel
   unfold jk
   rw[z6 wX]
   dsimp only
   rw[z6 (iP s (by omega) 0 0 0 l' r' hsP),hsk]
   cases r' with
   | cons c q =>
    rw[z6 (a:=(zE,(xZ s (c::q) 2 ((xy s (c::q):Nat):Int) 0 l',e'))) (by rw[Wf,uu,za (by rw[dK hsP]; rfl),z6 (cw _ _ _ _ _ _ _),if_pos rfl,z7])]
    rfl
   | nil =>
    rw[z6 (a:=(zE,(xZ s [] 0 0 0 l',e'))) (by rw[Wf,uu,z8 (by rw[lW]; rfl),z7])]
    rw[Wf,zbc,z8 (by rfl)]
    unfold Ci pY
    dsimp only
    rw[if_neg (by decide)]
    rw[z6 (a:=(decide (l'=true\/Ea e=false),(zE,(xZ s [] 0 0 0 l',e'))))]
    ·dsimp only
     by_cases c2:l'=true\/Ea e=false
     ·rw[za (decide_eq_true c2),z7,if_pos c2]
     ·rw[z8 (decide_eq_false c2),z7,if_neg c2]
      grind
    ·cases l' with
     | true=>rfl
     | false =>
      obtain⟨_,rfl⟩:=hee rfl
      have h2:=hg0.2
      have h3:=hg0.1.2
      have hI:=JN e' hg0.1.1 (by omega) (by omega)
      rw[zf,z6 hI,z7]
      simp
def mr(a b:Rat):Bool:=((norm a).1==(norm b).1)&&(((norm a).2.1==(norm b).2.1)&&((norm a).2.2.1==(norm b).2.2.1))
theorem Oc{a b:Rat}:mr a b=true↔norm a=norm b:=by
 unfold mr
 grind
mutual
def sameE:Expr->Expr->Bool
 | .mk k n s l,.mk k' n' s' l'=>(k==k')&&(zi s s'&&(mr n n'&&sameEs l l'))
def sameEs:List Expr->List Expr->Bool
 | [],[]=>true
 | a::r,b::r'=>sameE a b&&sameEs r r'
 | [],_::_=>false
 | _::_,[]=>false
end
theorem JL:∀ (a b:List Expr),a.length≠b.length->sameEs a b=false
 | [],[],h=>absurd rfl h
 | _::r,_::r',h=>by
  show(sameE _ _&&sameEs r r')=false
  rw[JL r r' (λe=>h (by grind)),Bool.and_false]
 | [],_::_,_=>rfl
 | _::_,[],_=>rfl
theorem Fw(s:zd):zi s s=true:=by rw[xQ]; simp
mutual
theorem cH:∀ (e:Expr),sameE e e=true
 | .mk k n s l=>by
  show((k==k)&&(zi s s&&(mr n n&&sameEs l l)))=true
  rw[Fw,Oc.2 rfl,Wu l]; simp
theorem Wu:∀ (l:List Expr),sameEs l l=true
 | []=>rfl
 | a::r=>by
  show(sameE a a&&sameEs r r)=true
  rw[cH a,Wu r]; rfl
end
theorem SF(R:Int->T (Int⊕(Unit⊕Bool)))(a b:List Expr)(hl:a.length=b.length)
  (step:∀ k (h:k<a.length) (h':k<b.length),(R (k:Int)).run=some (if sameE a[k] b[k]=true then .inl ((k+1:Nat):Int)else .inr (.inr false)))
  (done:(R (a.length:Int)).run=some (.inr (.inl ()))):(T.loop R 0).run=some (if sameEs a b=true then .inl ()else .inr false):=by
 have key:∀ (m k:Nat),k+m=a.length->(T.loop R (k:Int)).run=some (if sameEs (a.drop k) (b.drop k)=true then .inl ()else .inr false):=by
  intro m
  induction m with
  | zero =>
   intro k hk
   have:k=a.length:=by omega
   subst this
   rw[List.drop_length,hl,List.drop_length]
   rw[hl]at done
   exact zL done
  | succ m ih =>
   intro k hk
   have h1:k<a.length:=by omega
   have h2:k<b.length:=by omega
   rw[List.drop_eq_getElem_cons h1,List.drop_eq_getElem_cons h2]
   show _=some (if(sameE a[k] b[k]&&sameEs (a.drop (k+1)) (b.drop (k+1)))=true then _ else _)
   have st:=step k h1 h2
   cases q:sameE a[k] b[k]with
   | true =>
    rw[q,if_pos rfl]at st
    rw[qu st,Bool.true_and]
    grind
   | false =>
    rw[q,if_neg (by simp)]at st
    exact zL st
 have:=key a.length 0 (by omega)
 grind
theorem tW(a b:Rat)(ha:yN a)(hb:yN b):(ct a b).run=some (mr a b):=by
 have na:=mL (k:=100) (by omega) ha
 unfold ct mr
 rw[z6 (eL a (eZ ha (by omega))),z6 (eL b (eZ hb (by omega)))]
 cases((norm a).1==(norm b).1)with
 | false=>rfl
 | true =>
  rw[zk,z6 (nt _ _ (by have:=na.2.2.1; omega)),Bool.true_and]
  cases((norm a).2.1==(norm b).2.1)with
  | false=>rfl
  | true=>rw[zk,z6 (nt _ _ (by have:=na.2.2.2; omega)),z7,Bool.true_and]
theorem Fj(e:Expr):(Expr.kids e).length<=vy e:=by
 cases e with | mk k n s l =>
 have:=oy l
 show l.length<=1+u6 l
 omega
theorem cP(a b:Expr)(ha:allOk a)(hb:allOk b)(la:vy a<=1000000):(eC a b).run=some (sameE a b):=by
 refine nC (λx:Expr×Expr=>allOk x.1/\allOk x.2/\vy x.1<=1000000) (λx=>vy x.1) (λx=>sameE x.1 x.2) (λx hx g hg => ?_) (x:=(a,b)) ⟨ha,hb,la⟩
 obtain⟨a,b⟩:=x
 obtain⟨ha,hb,la⟩:=hx
 dsimp only at ha hb la ⊢
 cases a with | mk k n s l =>
 cases b with | mk k' n' s' l' =>
 have hk:=Fj (.mk k n s l)
 have hk:l.length<=vy (.mk k n s l):=hk
 show _=some ((k==k')&&(zi s s'&&(mr n n'&&sameEs l l')))
 have head:((.ite (k != k') (.ret true) (.ite (!(zi s s')) (.ret true) (T.bind (ct n n') λr=>.ite (!r) (.ret true) (.ret ((Nat.cast (List.length l):Int) != (Nat.cast (List.length l'):Int)))))):T Bool).run=some (!((k==k')&&(zi s s'&&(mr n n'&&((l.length:Int)==(l'.length:Int)))))):=by
  rw[bne]
  cases(k==k')with
  | false=>rfl
  | true =>
   rw[z8 (by rfl)]
   cases zi s s' with
   | false=>rfl
   | true =>
    rw[z8 (by rfl),z6 (tW n n' ha.1 hb.1)]
    cases mr n n' with
    | false=>rfl
    | true=>rfl
 show(T.bind (.ite (k != k') (.ret true) (.ite (!(zi s s')) (.ret true) (T.bind (ct n n') λr=>.ite (!r) (.ret true) (.ret ((Nat.cast (List.length l):Int) != (Nat.cast (List.length l'):Int)))))) _).run=_
 rw[z6 head]
 cases q:((k==k')&&(zi s s'&&(mr n n'&&((l.length:Int)==(l'.length:Int)))))with
 | false =>
  rw[za (by rfl),z7]
  congr 1
  by_cases hl:l.length=l'.length
  ·grind
  ·rw[JL l l' hl]
   simp
 | true =>
  simp only[Bool.and_eq_true,beq_iff_eq]at q
  obtain⟨q1,q2,q3,q4⟩:=q
  have hl:l.length=l'.length:=by omega
  rw[z8 (by rfl),q2,q3,show(k==k')=true by simpa using q1,Bool.true_and,Bool.true_and,Bool.true_and]
  have key:(ZN (λy0 y1=>g (y0,y1)) (.mk k n s l) (.mk k' n' s' l') 0).run=some (if sameEs l l'=true then .inl ()else .inr false):=by
   refine SF (bS (λy0 y1=>g (y0,y1)) (.mk k n s l) (.mk k' n' s' l')) l l' hl (λj h h' => ?_) ?_
   ·have hr:=hg (l[j],l'[j]) ⟨fy ha.2 _ (List.getElem_mem h),fy hb.2 _ (List.getElem_mem h'),by have:=mb (List.getElem_mem h); have e:vy (.mk k n s l)=1+u6 l:=rfl; show vy l[j]<=1000000; omega⟩ (by have:=mb (List.getElem_mem h); have e:vy (.mk k n s l)=1+u6 l:=rfl; show vy l[j]<vy (.mk k n s l); omega)
    unfold bS
    rw[show Expr.kids (.mk k n s l)=l from rfl,show Expr.kids (.mk k' n' s' l')=l' from rfl,za (vX h),zb (zH h),zb (zH h'),bC h,bC h',z6 hr]
    cases sameE l[j] l'[j]with
    | false=>rfl
    | true=>rw[z8 (by rfl),z7,fx j _ h (by omega),if_pos rfl]
   ·unfold bS
    rw[show Expr.kids (.mk k n s l)=l from rfl,z8 (oz _),z7]
  rw[z6 key]
  cases sameEs l l'<;>rfl
theorem z4l:zB 2=[2]:=by rw[kV (by omega),show 2 / 4294967296=0 from rfl,qs]; rfl
theorem T1:oe [50]=(false,[2],[1],()):=by
 have e:oi [50]=some (2,1):=by decide +kernel
 unfold oe
 rw[e]
 show um _ 2 1=_
 unfold um
 rw[if_neg (by decide),show 2 / Nat.gcd 2 1=2 from rfl,show 1 / Nat.gcd 2 1=1 from rfl,z4l,Py]
 rfl
def Kl(s:zd):Expr:=.mk 2 qo s []
theorem z0k:norm (false,[2],[1],())=(false,[2],[1],()):=by
 rw[<- T1]
 have e:oi [50]=some (2,1):=by decide +kernel
 have:oe [50]=um (List.isPrefixOf [45] [50]) 2 1:=by
  unfold oe
  rw[e]
  rfl
 rw[this]
 exact NB _ _ _
theorem z1w:yr (oe [50])=true:=by
 rw[T1]
 unfold yr og cD trimB
 rw[z0k]
 show(((zB 2==[2])&&((zB 1==[1])&&_))&&_)=true
 rw[z4l,Py]
 rfl
theorem Cp(s:zd):gb (qB s).1/\vy (qB s).1<=s.length+1:=by
 have hg:=Gg (s:=s) (R:=ik qo s) (N:=s.length+1) (by
  have:=W2 jL s
  cases q:ik qo s with
  | no=>trivial
  | er=>trivial
  | ok e r l=>rw[q]at this; exact⟨this.1,by have:=this.2; omega⟩) (by omega)
 have hz:gb zE/\vy zE<=s.length+1:=⟨Vx,by show(1:Nat)+0<=s.length+1; omega⟩
 unfold qB Ci
 split
 ·exact hz
 ·split
  ·exact hz
  ·exact hg
theorem zl{α:Type}(n:Nat)(t:T α):(T.zy (xL n 0 n n) t).run=t.run:=by simp
theorem OR(s:zd)(h:s.length<=1000000000):(ll s).run=some (xK 32 [] s):=by
 have e:(strings_FieldsFunc s (λz0=>bF z0)).run=some (xK 32 [] s):=by
  unfold strings_FieldsFunc
  rw[zb (by omega),z7]
 unfold ll
 rw[z6 e,z7]
def gN:zd->Option (zd×Int×zd)
 | []=>none
 | b::r=>if b=61 then some ([],0,r)else if b=60 then(if[61].isPrefixOf r=true then some ([],2,r.drop 1)else some ([],1,r))else
   match gN r with
   | some (l,c,q)=>some (b::l,c,q)
   | none=>none
theorem Zo:∀ {s:zd},(∀ b∈s,b≠60/\b≠61)->gN s=none
 | [],_=>rfl
 | b::r,h=>by
  have hb:=h b List.mem_cons_self
  unfold gN
  rw[if_neg hb.2,if_neg hb.1,Zo λx hx=>h x (List.mem_cons_of_mem _ hx)]
theorem XF:∀ {a:zd} (t:zd),(∀ b∈a,b≠60/\b≠61)->gN (a++t)=(match gN t with | some (l,c,q)=>some (a++l,c,q) | none=>none)
 | [],t,_=>by
  grind
 | b::a,t,h=>by
  have hb:=h b List.mem_cons_self
  show(if b=61 then _ else if b=60 then _ else match gN (a++t)with | some (l,c,q)=>some (b::l,c,q) | none=>none)=_
  rw[if_neg hb.2,if_neg hb.1,XF t λx hx=>h x (List.mem_cons_of_mem _ hx)]
  cases gN t<;>rfl
theorem JU:∀ s:zd,(bJ s [60,61] = -1/\∀ b∈s,b≠60/\b≠61)\/∃ (a:zd) (c:UInt8) (r:zd),s=a++c::r/\(c=60\/c=61)/\(∀ b∈a,b≠60/\b≠61)/\bJ s [60,61]=(a.length:Int)
 | []=>.inl ⟨rfl,λb h=>by cases h⟩
 | b::r=>by
  by_cases hb:b=60\/b=61
  ·refine .inr ⟨[],b,r,rfl,hb,λx h=>absurd h List.not_mem_nil,?_⟩
   unfold bJ
   grind
  ·have hn:b≠60/\b≠61:=⟨λh=>hb (.inl h),λh=>hb (.inr h)⟩
   have e:bJ (b::r) [60,61]=if bJ r [60,61] == -1 then -1 else bJ r [60,61]+1:=by
    show(if([60,61]:zd).contains b=true then _ else _)=_
    grind
   rcases JU r with⟨h1,h2⟩ | ⟨a,c,q,rfl,h2,h3,h4⟩
   ·grind
   ·grind
theorem z2I(a:zd)(c:UInt8)(r:zd):qC ((a.length:Nat):Int) ((a.length+1:Nat):Int) (a++c::r)=[c]:=by
 rw[uH]
 grind
theorem JC(a t:zd):qC (0:Int) ((a.length:Nat):Int) (a++t)=a:=by
 have:=uH (a++t) 0 a.length
 grind
theorem Xu(a:zd)(c:UInt8)(r:zd):qC ((a.length+1:Nat):Int) (((a++c::r).length:Nat):Int) (a++c::r)=r:=by
 rw[uH,List.take_length,show a++c::r=(a++[c])++r by simp,List.drop_left' (by simp)]
theorem EE(s p:zd)(h:s.length<=1000000000)(hp:p.length<=1000000):(strings_HasPrefix s p).run=some (List.isPrefixOf p s):=by
 have e:(xJ s p).run=some (List.isPrefixOf p s):=by
  unfold xJ
  rw[zb (λhd=>xU.2 ⟨by omega,by omega,by grind⟩),z7]
  have hc:qC (0:Int) ((p.length:Nat):Int) s=s.take p.length:=by
   rfl
  congr 1
  rw[Bool.eq_iff_iff,Bool.and_eq_true,decide_eq_true_eq,xQ,decide_eq_true_eq,List.isPrefixOf_iff_prefix,List.prefix_iff_eq_take]
  grind
 unfold strings_HasPrefix
 rw[z6 e,z7]
def yu(ic s:zd):Expr×Expr×zd×Int:=match gN s with
 | none=>(zE,(zE,(([]:zd),(2:Int))))
 | some (l,c,r)=>if(qB l).2.2≠0 then((qB l).1,(zE,(([]:zd),(qB l).2.2)))
  else((qB l).1,((qB r).1,(cC c,(if(qB r).2.2=0/\¬ (0<=dX ic (cC c))then 2 else(qB r).2.2))))
theorem QI(s ic:zd)(hs:s.length<=80000)(hg:ic.length<=1000):(uc s ic).run=some (yu ic s):=by
 have hI:(strings_IndexAny s [60,61]).run=some (bJ s [60,61]):=by
  unfold strings_IndexAny
  rw[zb ⟨by omega,by decide,by decide,by decide⟩,z7]
 unfold uc
 rw[z6 hI]
 rcases JU s with⟨h1,h2⟩ | ⟨a,c,r,rfl,hc,ha,hi⟩
 ·rw[h1,za (by rfl),z7]
  unfold yu
  rw[Zo h2]
 ·have hlen:(a++c::r).length=a.length+(r.length+1):=by rw[List.length_append,List.length_cons]
  have hw:zI (((a.length:Nat):Int)+1)=((a.length+1:Nat):Int):=by rw[zA (by omega) (by omega)]; omega
  rw[hi,z8 (decide_eq_false (by omega)),hw,zb (xU.2 ⟨by omega,by omega,by omega⟩),zb (xU.2 ⟨by omega,by omega,by omega⟩),zb (xU.2 ⟨by omega,by omega,by omega⟩),z2I,Xu,JC]
  have fin:∀ (cm:Int) (q:zd),gN (a++c::r)=some (a,cm,q)->q.length<=80000->(cm=0\/cm=1\/cm=2)->(T.bind (kg a) λ(r1,r2,e) =>
   .ite (e != (0:Int))
    (.ret (r1,(zE,(([]:zd),e))))
    (T.bind (T.bind (kg q) λ(r3,r4,e1) =>
       T.bind (.ite (e1==(0:Int))
          (T.bind (strings_Contains ic (cC cm)) λr5 =>
           .ret ((!r5),(r1,r3)))
          (.ret (false,(r1,r3))):T ((Bool×AM.Expr×AM.Expr))) λ(x1,v4,v5) =>
       .ite x1
        (.ret ((2:Int),(v4,v5)))
        (.ret (e1,(v4,v5))):T ((Int×AM.Expr×AM.Expr))) λ(e2,v6,v7) =>
     .ret (v6,(v7,(cC cm,e2)))):T (AM.Expr×AM.Expr×zd×Int)).run=some (yu ic (a++c::r)):=by
   intro cm q he hq hcm
   unfold yu
   rw[he,z6 (YV a (by omega))]
   dsimp only
   have hQ:=YV q (by omega)
   generalize qB a=A
   generalize qB q=B at hQ ⊢
   obtain⟨A1,A2,A3⟩:=A
   obtain⟨B1,B2,B3⟩:=B
   dsimp only
   by_cases e:A3≠0
   ·rw[if_pos e,za (by simpa using e),z7]
   ·rw[if_neg e,z8 (by simpa using e)]
    have hC:(strings_Contains ic (cC cm)).run=some (decide ((0:Int)<=dX ic (cC cm))):=by
     unfold strings_Contains
     rw[zb (by omega),z7]
    have inner:(T.bind (kg q) λ(r3,r4,e1) =>
       T.bind (.ite (e1==(0:Int))
          (T.bind (strings_Contains ic (cC cm)) λr5 =>
           .ret ((!r5),(A1,r3)))
          (.ret (false,(A1,r3))):T ((Bool×AM.Expr×AM.Expr))) λ(x1,v4,v5) =>
       .ite x1
        (.ret ((2:Int),(v4,v5)))
        (.ret (e1,(v4,v5))):T ((Int×AM.Expr×AM.Expr))).run=some ((if B3=0/\¬ (0<=dX ic (cC cm))then 2 else B3),(A1,B1)):=by
     rw[z6 hQ]
     dsimp only
     by_cases e2:B3=0
     ·subst e2
      have hb:(.ite (((0:Int))==(0:Int)) (T.bind (strings_Contains ic (cC cm)) λr5=>.ret ((!r5),(A1,B1))) (.ret (false,(A1,B1))):T ((Bool×AM.Expr×AM.Expr))).run=some ((!decide ((0:Int)<=dX ic (cC cm))),(A1,B1)):=by
       rw[za (by rfl),z6 hC,z7]
      rw[z6 hb]
      dsimp only
      by_cases k:(0:Int)<=dX ic (cC cm)
      ·rw[if_neg (λh=>h.2 k),z8 (by rw[decide_eq_true k]; rfl),z7]
      ·rw[if_pos ⟨rfl,k⟩,za (by rw[decide_eq_false k]; rfl),z7]
     ·have hb:(.ite (B3==(0:Int)) (T.bind (strings_Contains ic (cC cm)) λr5=>.ret ((!r5),(A1,B1))) (.ret (false,(A1,B1))):T ((Bool×AM.Expr×AM.Expr))).run=some (false,(A1,B1)):=by
       rw[z8 (by simpa using e2),z7]
      rw[z6 hb]
      dsimp only
      rw[if_neg (λh=>e2 h.1),zf,z7]
    rw[z6 inner]
    dsimp only
    rw[z7]
  have cF:=XF (c::r) ha
  rcases hc with rfl | rfl
  ·have hp:=EE r [61] (by omega) (by decide)
   have hq:(.ite (zi ([60]:zd) ([60]:zd)) (T.bind (strings_HasPrefix r ([61]:zd)) λr=>.ret (r,(zE,zE))) (.ret (false,(zE,zE))):T (Bool×AM.Expr×AM.Expr)).run=some (List.isPrefixOf [61] r,(zE,zE)):=by
    rw[za (jl _),z6 hp,z7]
   have ec:gN (60::r)=(if[61].isPrefixOf r=true then some ([],2,r.drop 1)else some ([],1,r)):=by
    show(if(60:UInt8)=61 then _ else if(60:UInt8)=60 then _ else _)=_
    rw[if_neg (by decide),if_pos rfl]
   rw[ec]at cF
   by_cases k:[61].isPrefixOf r=true
   ·rw[if_pos k]at cF
    have hr:r.length >= 1:=by
     cases r with
     | nil=>cases k
     | cons x y=>simp
    have FB:(T.bind (.ite (zi ([60]:zd) ([60]:zd)) (T.bind (strings_HasPrefix r ([61]:zd)) λr=>.ret (r,(zE,zE))) (.ret (false,(zE,zE))):T (Bool×AM.Expr×AM.Expr)) λ(x,v,v1) =>
     .ite x
      (.zy (vj (1:Int) ((r.length:Nat):Int) (List.length r)) <|
       .ret (([60,61]:zd),((qC (1:Int) ((r.length:Nat):Int) r),(v,v1))))
      (.ret (([60]:zd),(r,(v,v1)))):T ((zd×zd×AM.Expr×AM.Expr))).run=some (([60,61]:zd),(r.drop 1,(zE,zE))):=by
     rw[z6 hq]
     dsimp only
     rw[za k,zb (xU.2 ⟨by omega,by omega,by omega⟩),z7]
     have:=uH r 1 r.length
     rw[List.take_length]at this
     rw[show qC (1:Int) ((r.length:Nat):Int) r=r.drop 1 from this]
    refine(z6 FB _).trans ?_
    exact fin 2 (r.drop 1) (by rw[cF]; simp) (by rw[List.length_drop]; omega) (.inr (.inr rfl))
   ·rw[if_neg k]at cF
    have FB:(T.bind (.ite (zi ([60]:zd) ([60]:zd)) (T.bind (strings_HasPrefix r ([61]:zd)) λr=>.ret (r,(zE,zE))) (.ret (false,(zE,zE))):T (Bool×AM.Expr×AM.Expr)) λ(x,v,v1) =>
     .ite x
      (.zy (vj (1:Int) ((r.length:Nat):Int) (List.length r)) <|
       .ret (([60,61]:zd),((qC (1:Int) ((r.length:Nat):Int) r),(v,v1))))
      (.ret (([60]:zd),(r,(v,v1)))):T ((zd×zd×AM.Expr×AM.Expr))).run=some (([60]:zd),(r,(zE,zE))):=by
     rw[z6 hq]
     dsimp only
     rw[z8 (by cases hh:List.isPrefixOf [61] r with | false=>rfl | true=>exact absurd hh k),z7]
    refine(z6 FB _).trans ?_
    exact fin 1 r (by rw[cF]; simp) (by omega) (.inr (.inl rfl))
  ·have ec:gN (61::r)=some ([],0,r):=by
    show(if(61:UInt8)=61 then _ else _)=_
    rw[if_pos rfl]
   rw[ec]at cF
   have FB:(T.bind (.ite (zi ([61]:zd) ([60]:zd)) (T.bind (strings_HasPrefix r ([61]:zd)) λr=>.ret (r,(zE,zE))) (.ret (false,(zE,zE))):T (Bool×AM.Expr×AM.Expr)) λ(x,v,v1) =>
     .ite x
      (.zy (vj (1:Int) ((r.length:Nat):Int) (List.length r)) <|
       .ret (([60,61]:zd),((qC (1:Int) ((r.length:Nat):Int) r),(v,v1))))
      (.ret (([61]:zd),(r,(v,v1)))):T ((zd×zd×AM.Expr×AM.Expr))).run=some (([61]:zd),(r,(zE,zE))):=by
    have hq:(.ite (zi ([61]:zd) ([60]:zd)) (T.bind (strings_HasPrefix r ([61]:zd)) λr=>.ret (r,(zE,zE))) (.ret (false,(zE,zE))):T (Bool×AM.Expr×AM.Expr)).run=some (false,(zE,zE)):=by
     rw[z8 (by rfl),z7]
    rw[z6 hq]
    dsimp only
    rw[zf,z7]
   refine(z6 FB _).trans ?_
   exact fin 0 r (by rw[cF]; simp) (by omega) (.inl rfl)
theorem byte_at{s:zd}{k:Nat}(h:k<s.length):zt s (k:Int)=((s[k].toNat:Nat):Int):=by
 unfold zt
 grind
theorem c6(b c:UInt8):(((b.toNat:Nat):Int)==((c.toNat:Nat):Int))=decide (b=c):=by
 rw[Bool.eq_iff_iff,beq_iff_eq,decide_eq_true_eq]
 constructor
 ·intro h; exact UInt8.toNat_inj.1 (by omega)
 ·grind
theorem YZ(c:UInt8):∀ (l cur r:zd),(∀ b∈l,b≠c)->xK c cur (l++r)=xK c (cur++l) r
 | [],cur,r,_=>by rw[List.append_nil]; rfl
 | b::l,cur,r,h=>by
  show(if b=c then _ else xK c (cur++[b]) (l++r))=_
  rw[if_neg (h b List.mem_cons_self),YZ c l _ r (λx hx=>h x (List.mem_cons_of_mem _ hx)),List.append_assoc]
  rfl
theorem CU(s:zd)(at_:Int)(xs:List zd)(hs:s.length<=1000000):∀ (m j:Nat),j+m=s.length->∃ n,j+n<=s.length/\(∀ b∈(s.drop j).take n,b≠32)/\(j+n=s.length\/∃ r,s.drop (j+n)=32::r)/\(tr s at_ ((j:Int),xs)).run=some (((j+n:Nat):Int),xs):=by
 intro m
 induction m with
 | zero =>
  intro j hj
  refine⟨0,by omega,(λb h=>by rw[List.take_zero]at h; cases h),.inl (by omega),?_⟩
  refine zL ?_
  unfold yP
  dsimp only
  rw[zb (λh=>by have:=of_decide_eq_true h; exact⟨by omega,by omega⟩),z8 (by rw[decide_eq_false (by omega)]; rfl),zl,T.zg,z7]
  rfl
 | succ m ih =>
  intro j hj
  have h1:j<s.length:=by omega
  have hd:=List.drop_eq_getElem_cons h1
  have hb:((((s[j].toNat:Nat):Int)) != (32:Int)) = !decide (s[j]=32):=by
   have:=c6 s[j] 32
   grind
  by_cases c:s[j]=32
  ·refine⟨0,by omega,(λb h=>by rw[List.take_zero]at h; cases h),.inr ⟨s.drop (j+1),by rw[Nat.add_zero,hd,c]⟩,?_⟩
   refine zL ?_
   unfold yP
   rw[zb (λ_=>zH h1),byte_at h1,hb,decide_eq_true c,z8 (by rw[Bool.not_true,Bool.and_false]),zl,T.zg,z7]
   rfl
  ·obtain⟨n,g1,g2,g3,g4⟩:=ih (j+1) (by omega)
   refine⟨n+1,by omega,λb hx => ?_,by rw[show j+(n+1)=j+1+n by omega]; exact g3,?_⟩
   ·grind
   ·rw[show j+(n+1)=j+1+n by omega]
    refine(qu (s':=(((j+1:Nat):Int),xs)) ?_).trans g4
    unfold yP
    rw[zb (λ_=>zH h1),byte_at h1,hb,decide_eq_false c,za (by rw[vX h1]; rfl),zl,T.zg,z7,fx j _ h1 (by omega)]
theorem mw(s:zd)(hs:s.length<=1000000):(eM s).run=some (xK 32 [] s):=by
 have key:∀ (m k:Nat) (acc:List zd),s.length-k<=m->k<=s.length->acc.length<=k->(lF s ((k:Int),acc)).run=some (acc++xK 32 [] (s.drop k)):=by
  intro m
  induction m with
  | zero =>
   intro k acc hm hk ha
   have:k=s.length:=by omega
   subst this
   rw[List.drop_length]
   refine zL ?_
   unfold jJ
   dsimp only
   rw[z8 (oz _),zl,T.zg,z7,show xK 32 [] []=[]from rfl,List.append_nil]
  | succ m ih =>
   intro k acc hm hk ha
   by_cases h1:k<s.length
   ·have hd:=List.drop_eq_getElem_cons h1
    have hb:((((s[k].toNat:Nat):Int))==(32:Int))=decide (s[k]=32):=c6 s[k] 32
    by_cases c:s[k]=32
    ·have e:xK 32 [] (s.drop k)=xK 32 [] (s.drop (k+1)):=by
      rw[hd,c]
      rfl
     rw[e]
     refine(qu (s':=(((k+1:Nat):Int),acc)) ?_).trans (ih (k+1) acc (by omega) (by omega) (by omega))
     unfold jJ
     dsimp only
     rw[za (vX h1),zb (zH h1),byte_at h1,hb,decide_eq_true c,zk,zl,T.zg,z7,fx k _ h1 (by omega)]
    ·obtain⟨n,g1,g2,g3,g4⟩:=CU s (k:Int) acc hs (s.length-k) k (by omega)
     have hn:1<=n:=by
      grind
     have hw:qC (k:Int) ((k+n:Nat):Int) s=(s.drop k).take n:=by rw[uH,List.drop_take,show k+n-k=n by omega]
     have e:xK 32 [] (s.drop k)=(s.drop k).take n::xK 32 [] (s.drop (k+n)):=by
      have nN:s.drop k=(s.drop k).take n++s.drop (k+n):=by rw[<- List.drop_drop,List.take_append_drop]
      have uh:(s.drop k).take n≠[]:=λh=>by
       grind
      conv=>lhs; rw[nN]
      rw[YZ 32 _ _ _ g2,List.nil_append]
      generalize (s.drop k).take n=W at uh ⊢
      rcases g3 with g3 | ⟨r,g3⟩
      ·rw[List.drop_of_length_le (by omega)]
       show(if W=[]then[]else[W])=W::xK 32 [] []
       rw[if_neg uh]; rfl
      ·rw[g3]
       show(if(32:UInt8)=32 then(if W=[]then _ else W::xK 32 [] r)else _)=W::(if(32:UInt8)=32 then(if([]:zd)=[]then xK 32 [] r else _)else _)
       rw[if_pos rfl,if_neg uh,if_pos rfl,if_pos rfl]
     rw[e]
     refine(qu (s':=(((k+n:Nat):Int),acc++[(s.drop k).take n])) ?_).trans ((ih (k+n) (acc++[(s.drop k).take n]) (by omega) (by omega) (by rw[List.length_append,List.length_singleton]; omega)).trans (by rw[List.append_assoc]; rfl))
     unfold jJ
     dsimp only
     rw[za (vX h1),zb (zH h1),byte_at h1,hb,decide_eq_false c,zf,zl,T.zg,z6 g4]
     dsimp only
     rw[zb (xU.2 ⟨by omega,by omega,by omega⟩),k8 _ rfl rfl rfl (by omega),q8 _ (by simp) rfl (by simp),vB _ (by simp),z7,hw]
   ·have:k=s.length:=by omega
    subst this
    rw[List.drop_length]
    refine zL ?_
    unfold jJ
    dsimp only
    rw[z8 (oz _),zl,T.zg,z7,show xK 32 [] []=[]from rfl,List.append_nil]
 have hk:=key s.length 0 [] (by omega) (by omega) (Nat.le_refl _)
 rw[List.drop_zero,List.nil_append]at hk
 have hk:(lF s ((0:Int),([]:List zd))).run=_:=hk
 unfold eM
 rw[zl,T.zg,z6 hk,T.zg,z7,Nat.zero_add,List.take_length,List.drop_zero]
def pL(w:List zd)(n:Nat):zd×Bool:=if w.length=n then([],true)
 else if w.length=n+2/\zi (nth w (n:Int) (zn .str)) [119,104,101,110]=true/\zT (nth w ((n+1:Nat):Int) (zn .str))=true then(nth w ((n+1:Nat):Int) (zn .str),true)else([],false)
theorem WK(w:List zd)(n:Nat)(hn:n<=1000):(kH w (n:Int)).run=some (pL w n):=by
 have w2:zI ((n:Int)+2)=((n+2:Nat):Int):=by rw[zA (by omega) (by omega)]; omega
 have w1:zI ((n:Int)+1)=((n+1:Nat):Int):=by rw[zA (by omega) (by omega)]; omega
 unfold kH pL
 rw[w2,w1]
 by_cases c:w.length=n
 ·rw[if_pos c,za (by grind),z7]
 ·rw[if_neg c,z8 (by rw[beq_eq_false_iff_ne]; omega)]
  by_cases c2:w.length=n+2
  ·have hk:(wB w ((n+2:Nat):Int) (n:Int) [119,104,101,110]).run=some (zi (nth w (n:Int) (zn .str)) [119,104,101,110]):=by
    unfold wB
    rw[zb (λ_=>zH (by omega)),z7]
    rw[show(((w.length:Nat):Int)==((n+2:Nat):Int))=true by rw[beq_iff_eq]; omega,Bool.true_and]
   have inner:(T.bind (wB w ((n+2:Nat):Int) (n:Int) [119,104,101,110]) λr =>
     .ite r
      (.zy (q9 ((n+1:Nat):Int) (List.length w)) <|
       T.bind (xC (nth w ((n+1:Nat):Int) (zn .str))) λr1 =>
       .ret r1)
      (.ret false):T (Bool)).run=some (zi (nth w (n:Int) (zn .str)) [119,104,101,110]&&zT (nth w ((n+1:Nat):Int) (zn .str))):=by
    rw[z6 hk]
    cases zi (nth w (n:Int) (zn .str)) [119,104,101,110]with
    | false=>rfl
    | true=>rw[zk,zb (zH (by omega)),z6 (xT _),z7]; rfl
   rw[z6 inner]
   cases q:(zi (nth w (n:Int) (zn .str)) [119,104,101,110]&&zT (nth w ((n+1:Nat):Int) (zn .str)))with
   | false=>rw[if_neg (λh=>by rw[h.2.1,h.2.2]at q; cases q),zf,z7]
   | true=>rw[Bool.and_eq_true]at q; rw[if_pos ⟨c2,q.1,q.2⟩,zk,zb (zH (by omega)),z7]
  ·have hk:(wB w ((n+2:Nat):Int) (n:Int) [119,104,101,110]).run=some false:=by
    have hb:(((w.length:Nat):Int)==((n+2:Nat):Int))=false:=by rw[beq_eq_false_iff_ne]; omega
    unfold wB
    rw[zb (λh=>by rw[hb]at h; cases h),z7,hb,Bool.false_and]
   have inner:(T.bind (wB w ((n+2:Nat):Int) (n:Int) [119,104,101,110]) λr =>
     .ite r
      (.zy (q9 ((n+1:Nat):Int) (List.length w)) <|
       T.bind (xC (nth w ((n+1:Nat):Int) (zn .str))) λr1 =>
       .ret r1)
      (.ret false):T (Bool)).run=some false:=by
    rw[z6 hk,zf,z7]
   rw[z6 inner,if_neg (λh=>c2 h.1),zf,z7]
theorem Wn(w:List zd)(n:Nat)(hn:n<=1000):(jj w (n:Int)).run=some (pL w n):=by
 have w2:zI ((n:Int)+2)=((n+2:Nat):Int):=by rw[zA (by omega) (by omega)]; omega
 have w1:zI ((n:Int)+1)=((n+1:Nat):Int):=by rw[zA (by omega) (by omega)]; omega
 unfold jj pL
 rw[w2,w1]
 by_cases c:w.length=n
 ·rw[if_pos c,za (by grind),z7]
 ·rw[if_neg c,z8 (by grind)]
  by_cases c2:w.length=n+2
  ·have inner:(.ite ((Nat.cast (List.length w):Int)==((n+2:Nat):Int))
      (.zy (q9 (n:Int) (List.length w)) <|
       .ite (zi (nth w (n:Int) (zn .str)) ([119,104,101,110]:zd))
        (.zy (q9 ((n+1:Nat):Int) (List.length w)) <|
         T.bind (xj (nth w ((n+1:Nat):Int) (zn .str))) λr =>
         .ret r)
        (.ret false))
      (.ret false):T (Bool)).run=some (zi (nth w (n:Int) (zn .str)) [119,104,101,110]&&zT (nth w ((n+1:Nat):Int) (zn .str))):=by
    rw[za (by grind),zb (zH (by omega))]
    cases zi (nth w (n:Int) (zn .str)) [119,104,101,110]with
    | false=>rfl
    | true=>rw[zk,zb (zH (by omega)),z6 (qA _),z7]; rfl
   rw[z6 inner]
   cases q:(zi (nth w (n:Int) (zn .str)) [119,104,101,110]&&zT (nth w ((n+1:Nat):Int) (zn .str)))with
   | false=>rw[if_neg (λh=>by grind),zf,z7]
   | true=>rw[Bool.and_eq_true]at q; rw[if_pos ⟨c2,q.1,q.2⟩,zk,zb (zH (by omega)),z7]
  ·have inner:(.ite ((Nat.cast (List.length w):Int)==((n+2:Nat):Int))
      (.zy (q9 (n:Int) (List.length w)) <|
       .ite (zi (nth w (n:Int) (zn .str)) ([119,104,101,110]:zd))
        (.zy (q9 ((n+1:Nat):Int) (List.length w)) <|
         T.bind (xj (nth w ((n+1:Nat):Int) (zn .str))) λr =>
         .ret r)
        (.ret false))
      (.ret false):T (Bool)).run=some false:=by
    rw[z8 (by grind),z7]
   rw[z6 inner,if_neg (λh=>c2 h.1),zf,z7]
theorem Oy{n:Rat}(h:yr n=true):og n=true/\n.1=false/\cD n=false/\(xB (norm n).1 (nv (norm n).2.1) (nv (norm n).2.2.1) 0 61).2=true:=by
 unfold yr at h
 grind
theorem Gv{n:Rat}(hn:yN n)(h:og n=true):norm n=n:=(CZ n hn.1 hn.2.1).1 h
theorem z0Z{d:Nat}{k:Int}{n:Rat}{s:zd}{l:List Expr}(ho:uw d (.mk k n s l)=true) :
  (k=1/\l=[]/\yr n=true/\s=[])\/(k=2/\l=[]/\zT s=true/\wh n=true)\/(k=7/\(∃ a,l=[a]/\uw (d+1) a=true)/\wh n=true/\s=[])\/((k=3\/k=4\/k=5\/k=6)/\(∃ a b,l=[a,b]/\uw (d+1) a=true/\uw (d+1) b=true)/\wh n=true/\s=[]):=by
 obtain⟨hk,hl⟩:=Ql ho
 have ho:(decide (d<32)&&(gP (.mk k n s l)&&kY (d+1) l))=true:=ho
 simp at ho
 have CG:=ho.2.1
 unfold gP at CG
 rw[Bool.and_eq_true]at CG
 have hb:=CG.2
 rw[show Expr.kind (.mk k n s l)=k from rfl,show Expr.num (.mk k n s l)=n from rfl,show Expr.name (.mk k n s l)=s from rfl]at hb
 have z08:(l.length:Int)=0->l=[]:=λh=>List.eq_nil_of_length_eq_zero (by omega)
 by_cases h1:k=1
 ·rw[if_pos h1,Bool.and_eq_true,xQ,decide_eq_true_eq]at hb
  refine .inl ⟨h1,z08 ?_,hb.1,hb.2⟩
  rw[hk]; unfold pG; rw[if_pos (.inl h1)]
 ·rw[if_neg h1]at hb
  by_cases h2:k=2
  ·rw[if_pos h2,Bool.and_eq_true]at hb
   refine .inr (.inl ⟨h2,z08 ?_,hb.2,hb.1⟩)
   rw[hk]; unfold pG; rw[if_pos (.inr h2)]
  ·rw[if_neg h2,Bool.and_eq_true,xQ,decide_eq_true_eq]at hb
   rcases Hu hk h1 h2 with⟨h7,a,rfl⟩ | ⟨h36,a,b,rfl⟩
   ·have hl:(uw (d+1) a&&kY (d+1) [])=true:=hl
    grind
   ·have hl:(uw (d+1) a&&(uw (d+1) b&&kY (d+1) []))=true:=hl
    grind
theorem Cr{n:Rat}(h:wh n=true):norm n=norm qo:=by
 unfold wh at h
 simp at h
 have:nv n.2.1=0:=by rw[h.2.1]; rfl
 unfold norm
 have z:∀ b d,um b 0 d=(false,[],[1],()):=λb d=>by unfold um; rw[if_pos (.inl rfl)]
 rw[this,z,show nv qo.2.1=0 from rfl,z]
theorem O6{e:Expr}(h:Ea e=true):uw 0 e=true/\vy e<=256:=by
 unfold Ea at h
 grind
theorem Nn{s:zd}{e:Expr}{a:Int}(h:qB s=(e,(a,(0:Int)))):Ea e=true:=by
 unfold qB Ci at h
 split at h
 ·rename_i c
  injection h with _ h
  injection h with _ h
  exact absurd h c
 ·split at h
  ·injection h with _ h
   injection h with _ h
   exact absurd h (by decide)
  ·rename_i c
   injection h with h _
   rw[<- h]
   cases q:Ea (pY s (ik qo s)).1 with
   | true=>rfl
   | false=>exact absurd (.inr q) c
theorem z8b{n:Rat}(hn:yN n)(h:yr n=true):8*n.2.1.length+8*n.2.2.1.length<=256:=by
 obtain⟨h1,h2,h3,h4⟩:=Oy h
 have e:=Gv hn h1
 unfold cD at h3
 grind
theorem B7{n:Rat}(hn:yN n)(h:wh n=true):8*n.2.1.length+8*n.2.2.1.length<=256:=by
 have h0:=h
 unfold wh at h
 simp at h
 obtain⟨_,h2,h3⟩:=h
 rcases h3 with h3 | h3
 ·grind
 ·have e:=Gv hn h3
  have e2:=Cr h0
  rw[e]at e2
  rw[e2]
  decide +kernel
theorem z8L:∀ (m:Nat) (e:Expr) (d:Nat),vy e<=m->uw d e=true->allOk e->szE e<=283*vy e:=by
 intro m
 induction m with
 | zero=>intro e d hm; have:=L6 e; omega
 | succ m ih =>
  intro e d hm ho ha
  cases e with | mk k n s l =>
  have hn:=ha.1
  rcases z0Z ho with⟨rfl,rfl,h1,rfl⟩ | ⟨rfl,rfl,h1,h2⟩ | ⟨rfl,⟨a,rfl,hoa⟩,h1,rfl⟩ | ⟨hk,⟨a,b,rfl,hoa,hob⟩,h1,rfl⟩
  ·have:=z8b hn h1
   simp only[szE,szEs,vy,List.length_nil]; omega
  ·have:=B7 hn h2
   have:=(ZF h1).1
   simp only[szE,szEs,vy]; omega
  ·have e1:vy (.mk 7 n [] [a])=1+(vy a+0):=rfl
   have:=B7 hn h1
   have:=ih a _ (by omega) hoa ha.2.1
   simp only[szE,szEs,List.length_nil]; omega
  ·have e1:vy (.mk k n [] [a,b])=1+(vy a+(vy b+0)):=rfl
   have:=B7 hn h1
   have:=ih a _ (by omega) hoa ha.2.1
   have:=ih b _ (by omega) hob ha.2.2.1
   simp only[szE,szEs,List.length_nil]; omega
theorem z09{e:Expr}(h:Ea e=true)(ha:allOk e):uT e:=by
 obtain⟨h1,h2⟩:=O6 h
 have:=z8L _ e 0 (Nat.le_refl _) h1 ha
 exact⟨by omega,h2,ha⟩
theorem J3(s:zd):uT (qB s).1:=by
 have hg:=(Cp s).1.1
 by_cases h:(qB s).2.2=0
 ·refine z09 (Nn (s:=s) (a:=(qB s).2.1) ?_) hg
  rw[<- h]
 ·have e:(qB s).1=zE:=by
   unfold qB Ci at h ⊢
   grind
  rw[e]
  exact LQ (by decide) Vx.1
def qp(s:zd):Expr×Expr×Int×Int:=match gN s with
 | none=>(zE,(zE,((0:Int),(2:Int))))
 | some (l,c,r)=>if(qB l).2.2≠0 then(zE,(zE,((0:Int),(qB l).2.2)))else((qB l).1,((qB r).1,(c,(qB r).2.2)))
theorem JS(s:zd)(hs:s.length<=80000):∀ (q a:zd),s=a++q->(∀ b∈a,b≠60/\b≠61)->∃ n,n<=s.length/\(lp s ((a.length:Int),(zE,zE))).run=some ((n:Int),(zE,zE)) /\
  ((n=s.length/\∀ b∈s,b≠60/\b≠61)\/∃ (p:zd) (c:UInt8) (r:zd),s=p++c::r/\n=p.length/\(c=60\/c=61)/\∀ b∈p,b≠60/\b≠61)
 | [],a,he,ha=>by
  rw[List.append_nil]at he
  subst he
  refine⟨s.length,Nat.le_refl _,?_,.inl ⟨rfl,ha⟩⟩
  refine zL ?_
  unfold yM
  simp
 | b::q,a,he,ha=>by
  have hl:a.length<s.length:=by rw[he,List.length_append,List.length_cons]; omega
  have hb:s[a.length]=b:=by
   grind
  have q1:((((s[a.length].toNat:Nat):Int)) != (60:Int)) = !decide (b=60):=by
   have:=c6 b 60
   grind
  have q2:((((s[a.length].toNat:Nat):Int)) != (61:Int)) = !decide (b=61):=by
   have:=c6 b 61
   grind
  by_cases c:b=60\/b=61
  ·refine⟨a.length,by omega,?_,.inr ⟨a,b,q,he,rfl,c,ha⟩⟩
   refine zL ?_
   unfold yM
   dsimp only
   rw[zb (λ_=>⟨zH hl,λ_=>zH hl⟩),byte_at hl,q1,q2,z8,z7]
   grind
  ·have c1:b≠60:=λh=>c (.inl h)
   have c2:b≠61:=λh=>c (.inr h)
   obtain⟨n,g1,g2,g3⟩:=JS s hs q (a++[b]) (by rw[he]; simp) (λx hx=>by
    rcases List.mem_append.1 hx with hx | hx
    ·grind
    ·rw[List.mem_singleton.1 hx]; exact⟨c1,c2⟩)
   refine⟨n,g1,?_,g3⟩
   refine(qu (s':=(((a++[b]).length:Int),(zE,zE))) ?_).trans g2
   unfold yM
   rw[zb (λ_=>⟨zH hl,λ_=>zH hl⟩),byte_at hl,q1,q2,decide_eq_false c1,decide_eq_false c2,za (by rw[decide_eq_true (by omega)]; rfl),z7,fx a.length _ hl (by omega),List.length_append,List.length_singleton]
theorem z96:(Expr.mk (0:Int) (false,(([]:List Int),(([]:List Int),()))) ([]:zd) ([]:List AM.Expr))=zE:=rfl
theorem Jc(a:zd)(c:UInt8)(r:zd):zt (a++c::r) ((a.length:Nat):Int)=((c.toNat:Nat):Int):=by
 have hl:a.length<(a++c::r).length:=by rw[List.length_append,List.length_cons]; omega
 rw[byte_at hl,List.getElem_append_right (Nat.le_refl _)]
 simp
theorem Bn(s:zd)(hs:s.length<=80000):(cB s).run=some (qp s):=by
 obtain⟨n,g1,g2,g3⟩:=JS s hs s [] rfl (λx h=>by cases h)
 have g2:(lp s ((0:Int),(zE,zE))).run=some ((n:Int),(zE,zE)):=g2
 unfold cB
 rw[z96,z6 g2]
 dsimp only
 rcases g3 with⟨rfl,h⟩ | ⟨a,c,r,he,rfl,hc,ha⟩
 ·rw[za (by rw[beq_iff_eq]),z7]
  unfold qp
  rw[Zo h]
 ·have hl:s.length=a.length+(r.length+1):=by rw[he,List.length_append,List.length_cons]
  have hw:zI (((a.length:Nat):Int)+1)=((a.length+1:Nat):Int):=by rw[zA (by omega) (by omega)]; omega
  rw[z8 (by rw[beq_eq_false_iff_ne]; omega),hw,zb ⟨zH (by omega),λ_ h=>zH (by have:=of_decide_eq_true h; omega)⟩,zb (xU.2 ⟨by omega,by omega,by omega⟩)]
  have Xi:qC (0:Int) ((a.length:Nat):Int) s=a:=by rw[he]; exact JC a _
  have hcr:qC ((a.length+1:Nat):Int) ((s.length:Nat):Int) s=r:=by rw[he]; exact Xu a c r
  have Ka:zt s ((a.length:Nat):Int)=((c.toNat:Nat):Int):=by rw[he]; exact Jc a c r
  have cF:=XF (c::r) ha
  rw[<- he]at cF
  have hP:(jk a).run=some ((qB a).1,((qB a).2.1,(qB a).2.2)):=pJ a (by omega)
  rw[Xi,Ka,z6 hP]
  dsimp only
  have fin:∀ (cm:Int) (k:Nat) (q:zd),gN s=some (a,cm,q)->k<=s.length->s.drop k=q ->
    (T.ite ((qB a).2.2 != (0:Int)) (.ret (zE,(zE,((0:Int),(qB a).2.2)))) (.zy (vj ((k:Nat):Int) ((s.length:Nat):Int) s.length) (T.bind (jk (qC ((k:Nat):Int) ((s.length:Nat):Int) s)) λ(r2,r3,e1)=>.ret ((qB a).1,(r2,(cm,e1))))):T (AM.Expr×AM.Expr×Int×Int)).run=some (qp s):=by
   intro cm k q h1 h2 h3
   unfold qp
   rw[h1]
   dsimp only
   by_cases e:(qB a).2.2≠0
   ·rw[if_pos e,za (by simpa using e),z7]
   ·have Fa:qC ((k:Nat):Int) ((s.length:Nat):Int) s=q:=by rw[uH,List.take_length,h3]
    rw[if_neg e,z8 (by simpa using e),zb (xU.2 ⟨by omega,by omega,by omega⟩),Fa,z6 (pJ q (by rw[<- h3,List.length_drop]; omega))]
    rfl
  rcases hc with rfl | rfl
  ·have ec:gN (60::r)=(if[61].isPrefixOf r=true then some ([],2,r.drop 1)else some ([],1,r)):=by
    rfl
   rw[ec]at cF
   rw[show((((60:UInt8).toNat:Nat):Int)==(60:Int))=true from rfl]
   simp only[cond_true,cond_false]
   have Bs:s.drop (a.length+1)=r:=by rw[he,show a++60::r=(a++[60])++r by simp,List.drop_left' (by simp)]
   cases r with
   | nil =>
    rw[show(decide (((a.length+1:Nat):Int)<((s.length:Nat):Int)))=false from decide_eq_false (by simp only[List.length_nil]at hl; omega),Bool.false_and]
    simp only[cond_true,cond_false]
    exact fin 1 (a.length+1) [] (by rw[cF]; simp[List.isPrefixOf]) (by omega) Bs
   | cons x r =>
    simp only[List.length_cons]at hl
    have h1:a.length+1<s.length:=by omega
    have hx:zt s ((a.length+1:Nat):Int)=((x.toNat:Nat):Int):=by
     have:=Jc (a++[60]) x r
     rw[show(a++[60])++x::r=s by rw[he]; simp,List.length_append,List.length_singleton]at this
     exact this
    have sU:zI (((a.length+1:Nat):Int)+1)=((a.length+2:Nat):Int):=by rw[zA (by omega) (by omega)]; omega
    have hq:((((x.toNat:Nat):Int))==(61:Int))=decide (x=61):=c6 x 61
    rw[show(decide (((a.length+1:Nat):Int)<((s.length:Nat):Int)))=true from decide_eq_true (by omega),Bool.true_and,hx,hq,sU]
    by_cases k:x=61
    ·subst k
     rw[decide_eq_true rfl]
     simp only[cond_true,cond_false]
     exact fin 2 (a.length+2) r (by rw[cF]; simp[List.isPrefixOf]) (by omega) (by rw[show a.length+2=a.length+1+1 from rfl,<- List.drop_drop,Bs]; rfl)
    ·rw[decide_eq_false k]
     simp only[cond_true,cond_false]
     exact fin 1 (a.length+1) (x::r) (by rw[cF]; simp[List.isPrefixOf,beq_eq_false_iff_ne.2 (λh=>k h.symm)]) (by omega) Bs
  ·have ec:gN (61::r)=some ([],0,r):=by
    show(if(61:UInt8)=61 then _ else _)=_
    rw[if_pos rfl]
   rw[ec]at cF
   rw[show((((61:UInt8).toNat:Nat):Int)==(60:Int))=false from rfl]
   simp only[cond_true,cond_false]
   exact fin 0 (a.length+1) r (by rw[cF]; simp) (by omega) (by rw[he,show a++61::r=(a++[61])++r by simp,List.drop_left' (by simp)])
abbrev oo:=List Switch×List Param×List qq×List Field×List qk×List Check
def qR:oo:=([],[],[],[],[],[])
def wd(l:List zd)(k:Nat):zd:=nth l (k:Int) (zn .str)
def VD(l:List zd):Int×oo:=if l.length=3/\zT (wd l 1)=true/\(zi (wd l 2) [111,110]=true\/zi (wd l 2) [111,102,102]=true)
 then(0,[(wd l 1,(zi (wd l 2) [111,110],()))],[],[],[],[],[])else(2,qR)
def XZ(s:zd):Option Rat:=if 400<s.length then none else match oi s with | some (n,d)=>some (um (List.isPrefixOf [45] s) n d) | none=>none
def Wx(l:List zd):Int×oo:=if l.length=3/\zT (wd l 1)=true then(match XZ (wd l 2)with | some r=>(0,[],[(wd l 1,(r,()))],[],[],[],[]) | none=>(2,qR))else(2,qR)
def VC(l:List zd):Int×oo:=if 2<=l.length/\zT (wd l 1)=true/\(pL l 2).2=true then(0,[],[],[(wd l 1,((pL l 2).1,()))],[],[],[])else(2,qR)
def da(w:List zd):Bool:=match w with | x::_=>zi x [109,117,115,116] | []=>false
def cr(w:List zd):Option Int:=match w with
 | []=>some 0
 | [a,[c]]=>if zi a [115,99,97,108,101]=true/\48<=c.toNat/\c.toNat<=57 then some ((c.toNat:Int)-48)else none
 | _=>none
def ui(l:List zd):List zd:=if da (l.drop 2)=true then l.drop 3 else l.drop 2
def Xh(np:Nat)(l:List zd):Int×oo:=if 2<=l.length/\zT (wd l 1)=true/\np≠0
 then(match cr (ui l)with | some k=>(0,[],[],[],[(wd l 1,((np:Int)-1,(da (l.drop 2),(k,()))))],[],[]) | none=>(2,qR))else(2,qR)
def rY(s:zd):Int:=PL.ZJ (λt=>zi s t) 0 [[114,101,113,117,105,114,101,100],[115,116,114,111,110,103],[109,101,100,105,117,109],[119,101,97,107]]
def HX(np:Nat)(l:List zd)(rest:zd):Int×oo:=if l.length=2/\zT (wd l 1)=true/\np≠0
 then((qp rest).2.2.2,[],[],[],[],[],[(wd l 1,((np:Int)-1,((qp rest).2.2.1,((qp rest).1,((qp rest).2.1,())))))])else(2,qR)
def WD(l:List zd)(rest:zd):Int×oo:=if 3<=l.length/\0<=rY (wd l 1)/\zT (wd l 2)=true/\(pL l 3).2=true
 then(if(qp rest).2.2.2=0/\(qp rest).2.2.1≠0 then(2,qR)else((qp rest).2.2.2,[],[],[],[],[(wd l 2,(rY (wd l 1),((pL l 3).1,((qp rest).1,((qp rest).2.1,())))))],[]))else(2,qR)
theorem tg{n:Nat}(h:0<n):q9 (0:Int) n:=⟨Int.le_refl _,by omega⟩
theorem ji{n:Nat}(h:1<n):q9 (1:Int) n:=⟨by decide,by omega⟩
theorem Zw{n:Nat}(h:2<n):q9 (2:Int) n:=⟨by decide,by omega⟩
theorem Bi(l:List zd)(xs:List Switch)(jC:List Param)(xW:List qq)(kS:List Field)(kT:List qk)(kR:List Check)(hx:xs.length<=1000000) :
  (jn l () xs jC xW kS kT kR).run=some (decide ((VD l).1=0),((),(xs++(VD l).2.1,(jC,(xW,(kS,(kT,kR))))))):=by
 unfold jn VD
 by_cases c1:l.length=3
 ·refine(z6 (a:=(!(zT (wd l 1)&&(zi (wd l 2) [111,110]||zi (wd l 2) [111,102,102])),((),(xs,(jC,(xW,(kS,(kT,kR)))))))) ?_ _).trans ?_
  ·rw[z8 (by rw[c1]; rfl),zb (ji (by omega)),z6 (xT _)]
   show(T.ite (!zT (wd l 1)) _ _).run=_
   cases zT (wd l 1)with
   | false=>simp
   | true =>
    rw[z8 (by rfl),zb (Zw (by omega))]
    show(T.ite (!zi (wd l 2) [111,110]) _ _).run=_
    cases zi (wd l 2) [111,110]with
    | true=>simp
    | false=>rw[za (by rfl),zb (Zw (by omega))]; simp only[zl,T.zg,zm,z7]; rfl
  ·dsimp only
   by_cases q:zT (wd l 1)=true/\(zi (wd l 2) [111,110]=true\/zi (wd l 2) [111,102,102]=true)
   ·rw[if_pos ⟨c1,q⟩,z8 (by rw[q.1]; rcases q.2 with h | h<;>simp[h]),zb (ji (by omega)),zb (Zw (by omega)),k8 _ rfl rfl rfl (by omega)]
    simp only[List.length_append,List.length_singleton,zl,T.zg,zm,z7]
    rfl
   ·rw[if_neg (λh=>q h.2),za]
    ·simp only[zl,T.zg,zm,z7]
     show _=some (false,((),(xs++[],_)))
     simp
    ·grind
 ·refine(z6 (a:=(true,((),(xs,(jC,(xW,(kS,(kT,kR)))))))) ?_ _).trans ?_
  ·rw[za (by rw[bne_iff_ne]; omega)]
   simp
  ·dsimp only
   rw[if_neg (λh=>c1 h.1),zk]
   show _=some (false,((),(xs++[],_)))
   simp
theorem GJ(s:zd)(hs:s.length<=1000000000):∃ r e,(gK s).run=some (r,e)/\(match XZ s with | some q=>r=q/\e=0 | none=>e≠0):=by
 have h:=tS s hs
 unfold XZ
 grind
theorem KG(s:zd)(hs:s.length<=1000000000):∃ r e,(ki s).run=some (r,e)/\(match XZ s with | some q=>r=q/\e=0 | none=>2<=e):=by
 have h:=rm s hs
 unfold XZ
 grind
theorem DA(l:List zd)(xs:List Switch)(jC:List Param)(xW:List qq)(kS:List Field)(kT:List qk)(kR:List Check)(hx:jC.length<=1000000)(hl:∀ s∈l,s.length<=1000000) :
  ∃ Q,(uJ l () xs jC xW kS kT kR).run=some (decide ((Wx l).1=0),((),(xs,(jC++Q,(xW,(kS,(kT,kR)))))))/\((Wx l).1=0->Q=(Wx l).2.2.1):=by
 by_cases c1:l.length=3/\zT (wd l 1)=true
 ·obtain⟨r,e,h1,h2⟩:=GJ (wd l 2) (by have:=hl _ (bh (l:=l) (i:=2) (d:=zn .str) (by omega) (by omega)); exact Nat.le_trans this (by omega))
  have h1:(gK (nth l 2 (zn .str))).run=some (r,e):=h1
  refine⟨[(wd l 1,(r,()))],?_,?_⟩
  ·unfold uJ
   refine(z6 (a:=(false,((),(xs,(jC,(xW,(kS,(kT,kR)))))))) ?_ _).trans ?_
   ·rw[z8 (by rw[c1.1]; rfl),zb (ji (by omega)),z6 (xT _)]
    simp only[zl,T.zg,zm,z7]
    show some (!zT (wd l 1),_)=_
    grind
   ·dsimp only
    rw[zf,zb (Zw (by omega)),z6 h1]
    dsimp only
    rw[zb (ji (by omega)),k8 _ rfl rfl rfl (by omega)]
    simp only[List.length_append,List.length_singleton,zl,T.zg,zm,z7]
    have:(e==(0:Int))=decide ((Wx l).1=0):=by
     unfold Wx
     grind
    rw[this]
    rfl
  ·intro h0
   unfold Wx at h0 ⊢
   grind
 ·have e2:Wx l=(2,qR):=by unfold Wx; rw[if_neg c1]
  refine⟨[],?_,λh=>by rw[e2]at h; exact absurd h (by decide)⟩
  unfold uJ
  rw[e2,List.append_nil]
  refine(z6 (a:=(true,((),(xs,(jC,(xW,(kS,(kT,kR)))))))) ?_ _).trans ?_
  ·by_cases k:l.length=3
   ·have hn:zT (wd l 1)=false:=by
     grind
    rw[z8 (by rw[k]; rfl),zb (ji (by omega)),z6 (xT _)]
    simp only[zl,T.zg,zm,z7]
    show some (!zT (wd l 1),_)=_
    rw[hn]; rfl
   ·rw[za (by rw[bne_iff_ne]; omega)]
    simp only[zl,T.zg,zm,z7]
  ·dsimp only
   rw[zk]
   simp only[zl,T.zg,zm,z7]
   rfl
theorem Ba(l:List zd)(xs:List Switch)(jC:List Param)(xW:List qq)(kS:List Field)(kT:List qk)(kR:List Check)(hx:xW.length<=1000000) :
  ∃ Q,(ud l () xs jC xW kS kT kR).run=some (decide ((VC l).1=0),((),(xs,(jC,(xW++Q,(kS,(kT,kR)))))))/\((VC l).1=0->Q=(VC l).2.2.2.1):=by
 by_cases c1:2<=l.length/\zT (wd l 1)=true
 ·have hg:(kH l (2:Int)).run=some ((pL l 2).1,(pL l 2).2):=WK l 2 (by decide)
  refine⟨[(wd l 1,((pL l 2).1,()))],?_,?_⟩
  ·unfold ud
   refine(z6 (a:=(false,((),(xs,(jC,(xW,(kS,(kT,kR)))))))) ?_ _).trans ?_
   ·rw[z8 (decide_eq_false (by omega)),zb (ji (by omega)),z6 (xT _)]
    simp only[zl,T.zg,zm,z7]
    show some (!zT (wd l 1),_)=_
    grind
   ·dsimp only
    rw[zf,z6 hg]
    dsimp only
    rw[zb (ji (by omega)),k8 _ rfl rfl rfl (by omega)]
    simp only[List.length_append,List.length_singleton,zl,T.zg,zm,z7]
    have:(pL l 2).2=decide ((VC l).1=0):=by
     unfold VC
     grind
    rw[this]
    rfl
  ·intro h0
   unfold VC at h0 ⊢
   grind
 ·have e2:VC l=(2,qR):=by unfold VC; rw[if_neg (λh=>c1 ⟨h.1,h.2.1⟩)]
  refine⟨[],?_,λh=>by rw[e2]at h; exact absurd h (by decide)⟩
  unfold ud
  rw[e2,List.append_nil]
  refine(z6 (a:=(true,((),(xs,(jC,(xW,(kS,(kT,kR)))))))) ?_ _).trans ?_
  ·by_cases k:2<=l.length
   ·have hn:zT (wd l 1)=false:=by
     cases h:zT (wd l 1)with
     | false=>rfl
     | true=>exact absurd ⟨k,h⟩ c1
    rw[z8 (decide_eq_false (by omega)),zb (ji (by omega)),z6 (xT _)]
    simp only[zl,T.zg,zm,z7]
    show some (!zT (wd l 1),_)=_
    rw[hn]; rfl
   ·rw[za (decide_eq_true (by omega))]
    simp only[zl,T.zg,zm,z7]
  ·dsimp only
   rw[zk]
   simp only[zl,T.zg,zm,z7]
   rfl
theorem z06(c k:UInt8):strLt [c] [k]=decide (c.toNat<k.toNat):=by
 show Op.bytesLess [c] [k]=_
 by_cases h:c.toNat<k.toNat
 ·rw[decide_eq_true h]; simp[Op.bytesLess,UInt8.lt_iff_toNat_lt,h]
 ·rw[decide_eq_false h]; simp[Op.bytesLess,UInt8.lt_iff_toNat_lt,h]
theorem sH{e:Ty}(l:List (den e))(k:Nat):wi (e:=e) (k:Int) ((l.length:Nat):Int) l=l.drop k:=by unfold wi; simp
def K9(w:List zd):Option Int:=match w with
 | [a,[c]]=>if zi a [115,99,97,108,101]=true/\48<=c.toNat/\c.toNat<=57 then some ((c.toNat:Int)-48)else none
 | _=>none
theorem H2(a:zd)(c:UInt8):K9 [a,[c]]=if zi a [115,99,97,108,101]=true/\48<=c.toNat/\c.toNat<=57 then some ((c.toNat:Int)-48)else none:=rfl
theorem mm:∀ (x:zd) (r:List zd),cr (x::r)=K9 (x::r)
 | _,[]=>rfl
 | _,[[]]=>rfl
 | _,[[_]]=>rfl
 | _,[_::_::_]=>rfl
 | _,[]::_::_=>rfl
 | _,[_]::_::_=>rfl
 | _,(_::_::_)::_::_=>rfl
theorem z2u(l:List zd)(n k:Nat)(s:zd)(h:k<n):(wB l (n:Int) (k:Int) s).run=some (decide (l.length=n)&&zi (wd l k) s):=by
 unfold wB
 rw[zb (λh1=>zH (by grind)),z7]
 have:(((l.length:Nat):Int)==(n:Int))=decide (l.length=n):=by rw[Bool.eq_iff_iff,beq_iff_eq,decide_eq_true_eq]; omega
 rw[this]; rfl
theorem KE(l:List zd)(xs:List Switch)(jC:List Param)(xW:List qq)(kS:List Field)(kT:List qk)(kR:List Check)(hx:kS.length<=1000000)(Et:xW.length<=1000000) :
  ∃ Q,(uF l () xs jC xW kS kT kR).run=some (decide ((Xh xW.length l).1=0),((),(xs,(jC,(xW,(kS++Q,(kT,kR)))))))/\((Xh xW.length l).1=0->Q=(Xh xW.length l).2.2.2.2.1):=by
 by_cases c1:2<=l.length/\zT (wd l 1)=true/\xW.length≠0
 ·have hw:zI (((xW.length:Nat):Int)-1)=(xW.length:Int)-1:=zA (by omega) (by omega)
  have d2:wi (e:=.str) (2:Int) ((l.length:Nat):Int) l=l.drop 2:=sH (e:=.str) l 2
  have d3:wi (e:=.str) (1:Int) (((l.drop 2).length:Nat):Int) (l.drop 2)=l.drop 3:=by
   rw[show l.drop 3=(l.drop 2).drop 1 by rw[List.drop_drop]]
   exact sH (e:=.str) (l.drop 2) 1
  refine⟨[(wd l 1,((xW.length:Int)-1,(da (l.drop 2),((K9 (ui l)).getD 0,()))))],?_,?_⟩
  ·unfold uF
   refine(z6 (a:=(false,((),(xs,(jC,(xW,(kS,(kT,kR)))))))) ?_ _).trans ?_
   ·rw[z8 (decide_eq_false (by omega)),zb (ji (by omega)),z6 (xT _)]
    show(T.ite (!zT (wd l 1)) _ _).run=_
    rw[c1.2.1,z8 (by rfl)]
    simp only[zl,T.zg,zm,z7]
    rw[beq_eq_false_iff_ne.2 (by omega)]
   ·dsimp only
    rw[zf,zb (ji (by omega)),zb (xU.2 ⟨by omega,by omega,by omega⟩),d2,hw]
    refine(z6 (a:=(ui l,((),(xs,(jC,(xW,(kS,(kT,(kR,(wd l 1,((xW.length:Int)-1,(da (l.drop 2),((0:Int),())))))))))))) ) ?_ _).trans ?_
    ·have hm:(decide ((0:Int)<(((l.drop 2).length:Nat):Int))&&zi (nth (l.drop 2) (0:Int) (zn .str)) ([109,117,115,116]:zd))=da (l.drop 2):=by
      unfold da
      cases l.drop 2 with
      | nil=>rfl
      | cons x r=>rw[decide_eq_true (by rw[List.length_cons]; omega)]; rfl
     rw[zb (λh=>tg (by have:=of_decide_eq_true h; omega)),hm]
     unfold ui
     cases q:da (l.drop 2)with
     | true =>
      have hp:0<(l.drop 2).length:=by
       grind
      rw[zk,zb (xU.2 ⟨by omega,by omega,by omega⟩),d3]
      simp only[zl,T.zg,zm,z7]
      rfl
     | false =>
      rw[zf]
      simp only[zl,T.zg,zm,z7]
      rfl
    ·dsimp only
     refine(z6 (a:=((match K9 (ui l)with | some _=>[] | none=>ui l),((),(xs,(jC,(xW,(kS,(kT,(kR,(wd l 1,((xW.length:Int)-1,(da (l.drop 2),((K9 (ui l)).getD 0,())))))))))))) ) ?_ _).trans ?_
     ·refine(z6 (a:=((K9 (ui l)).isSome,((),(xs,(jC,(xW,(kS,(kT,(kR,(wd l 1,((xW.length:Int)-1,(da (l.drop 2),((0:Int),())))))))))))) ) ?_ _).trans ?_
      ·have hk:(wB (ui l) (2:Int) (0:Int) ([115,99,97,108,101]:zd)).run=some (decide ((ui l).length=2)&&zi (wd (ui l) 0) [115,99,97,108,101]):=z2u (ui l) 2 0 _ (by decide)
       rw[z6 hk]
       generalize ui l=w
       by_cases k:w.length=2/\zi (wd w 0) [115,99,97,108,101]=true
       ·rw[za (by rw[decide_eq_true k.1,k.2]; rfl),zb (ji (by omega))]
        match w,k with
        | [a,[]],k=>rw[z8 (by rfl)]; simp only[zl,T.zg,zm,z7]; rfl
        | [a,x::y::r],k =>
         rw[z8 (by rw[beq_eq_false_iff_ne]; show((List.length (x::y::r):Nat):Int)≠1; rw[List.length_cons,List.length_cons]; omega)]
         simp only[zl,T.zg,zm,z7]; rfl
        | [a,[c]],k =>
         have ha:zi a [115,99,97,108,101]=true:=k.2
         have e1:strLt (nth [a,[c]] (1:Int) (zn .str)) [48]=decide (c.toNat<48):=z06 c 48
         have e2:strLt (nth [a,[c]] (1:Int) (zn .str)) [57]=decide (c.toNat<57):=z06 c 57
         have e3:zi (nth [a,[c]] (1:Int) (zn .str)) [57]=decide (c.toNat=57):=by
          show zi [c] [57]=_
          rw[xQ]
          by_cases h:c=57
          ·subst h; rfl
          ·rw[decide_eq_false (λq=>h (by injection q)),decide_eq_false (show ¬ c.toNat=57 from λq=>h (UInt8.toNat_inj.1 q))]
         rw[za (by rfl),zb (ji (by simp)),e1]
         by_cases g1:c.toNat<48
         ·rw[decide_eq_true g1,z8 (by rfl)]
          simp only[zl,T.zg,zm,z7]
          rw[H2,if_neg (λh=>by have:=h.2.1; omega)]; rfl
         ·rw[decide_eq_false g1,za (by rfl),zb (ji (by simp)),e2,e3]
          simp only[zl,T.zg,zm,z7]
          rw[H2]
          grind
       ·have hs:K9 w=none:=by
         unfold K9
         split
         ·rename_i a c
          rw[if_neg (λh=>k ⟨rfl,h.1⟩)]
         ·rfl
        rw[z8 (by
         by_cases g:w.length=2
         ·grind
         ·rw[decide_eq_false g]; rfl),hs]
        simp only[zl,T.zg,zm,z7]
        rfl
      ·dsimp only
       generalize ui l=w
       cases q:K9 w with
       | none =>
        show(T.ite false _ _).run=_
        rw[zf]
        simp only[zl,T.zg,zm,z7]
        rfl
       | some v =>
        show(T.ite true _ _).run=_
        unfold K9 at q
        split at q
        ·rename_i a c
         split at q
         ·rename_i h
          injection q with q
          have e4:zI (Gd (zt (nth [a,[c]] (1:Int) (zn .str)) (0:Int)-48))=v:=by
           show zI (Gd ((c.toNat:Int)-48))=v
           have:=h.2.1
           have:=h.2.2
           rw[Un (by omega) (by omega),zA (by omega) (by omega)]
           exact q
          rw[zk,zb (ji (by simp)),zb (tg (by show 0<List.length [c]; simp)),e4]
          simp only[zl,T.zg,zm,z7]
          rfl
         ·cases q
        ·cases q
     ·dsimp only
      rw[k8 _ rfl rfl rfl (by omega)]
      simp only[List.length_append,List.length_singleton,zl,T.zg,zm,z7]
      congr 2
      unfold Xh
      rw[if_pos c1]
      generalize ui l=w
      cases q:K9 w with
      | some v =>
       cases w with
       | nil=>cases q
       | cons x r=>rw[mm,q]; rfl
      | none =>
       cases w with
       | nil=>rfl
       | cons x r =>
        rw[mm,q]
        show(((List.length (x::r):Nat):Int)==0)=decide ((2:Int)=0)
        rw[List.length_cons,beq_eq_false_iff_ne.2 (by omega)]; rfl
  ·intro h0
   unfold Xh at h0 ⊢
   rw[if_pos c1]at h0 ⊢
   generalize ui l=w at h0 ⊢
   cases q:cr w with
   | none=>rw[q]at h0; exact absurd h0 (show ¬ (2:Int)=0 by decide)
   | some v =>
    have:(K9 w).getD 0=v:=by
     cases w with
     | nil=>injection q
     | cons x r=>rw[mm]at q; rw[q]; rfl
    rw[this]
 ·have e2:Xh xW.length l=(2,qR):=by unfold Xh; rw[if_neg c1]
  refine⟨[],?_,λh=>by rw[e2]at h; exact absurd h (by decide)⟩
  unfold uF
  rw[e2,List.append_nil]
  refine(z6 (a:=(true,((),(xs,(jC,(xW,(kS,(kT,kR)))))))) ?_ _).trans ?_
  ·by_cases k:2<=l.length
   ·rw[z8 (decide_eq_false (by omega)),zb (ji (by omega)),z6 (xT _)]
    show(T.ite (!zT (wd l 1)) _ _).run=_
    cases h:zT (wd l 1)with
    | false =>
     rw[za (by rfl)]
     simp only[zl,T.zg,zm,z7]
    | true =>
     rw[z8 (by rfl)]
     simp only[zl,T.zg,zm,z7]
     have:xW.length=0:=Classical.byContradiction λg=>c1 ⟨k,h,g⟩
     rw[this]; rfl
   ·rw[za (decide_eq_true (by omega))]
    simp only[zl,T.zg,zm,z7]
  ·dsimp only
   rw[zk]
   simp only[zl,T.zg,zm,z7]
   rfl
theorem HA:∀ {s:zd} {l:zd} {c:Int} {r:zd},gN s=some (l,c,r)->c=0\/c=1\/c=2
 | [],_,_,_,h=>by cases h
 | b::s,l,c,r,h=>by
  unfold gN at h
  split at h
  ·grind
  ·split at h
   ·grind
   ·split at h
    ·rename_i q
     injection h with h; injection h with _ h; injection h with h _
     rw[<- h]
     exact HA q
    ·cases h
theorem Nw(s:zd):(yu [60,61] s).2.2.2=(qp s).2.2.2/\((qp s).2.2.2=0->(yu [60,61] s).1=(qp s).1/\(yu [60,61] s).2.1=(qp s).2.1/\PL.ZJ (λt=>zi (yu [60,61] s).2.2.1 t) 0 [[61],[60],[60,61]]=(qp s).2.2.1):=by
 unfold yu qp
 cases h:gN s with
 | none=>simp
 | some p =>
  obtain⟨l,c,r⟩:=p
  dsimp only
  have hc:=HA h
  have hk:(0:Int)<=dX [60,61] (cC c):=by rcases hc with rfl | rfl | rfl<;>decide
  by_cases e:(qB l).2.2≠0
  ·grind
  ·rw[if_neg e,if_neg e]
   refine⟨if_neg (λh=>h.2 hk),λ_=>⟨rfl,rfl,?_⟩⟩
   show PL.ZJ (λt=>zi (cC c) t) 0 [[61],[60],[60,61]]=c
   rcases hc with rfl | rfl | rfl<;>decide
theorem R3(s:zd):(yu [61] s).2.2.2=(if(qp s).2.2.2=0/\(qp s).2.2.1≠0 then 2 else(qp s).2.2.2)/\((yu [61] s).2.2.2=0->(yu [61] s).1=(qp s).1/\(yu [61] s).2.1=(qp s).2.1):=by
 cases h:gN s with
 | none =>
  have h1:yu [61] s=(zE,(zE,(([]:zd),(2:Int)))):=by unfold yu; rw[h]
  have h2:qp s=(zE,(zE,((0:Int),(2:Int)))):=by unfold qp; rw[h]
  grind
 | some p =>
  obtain⟨l,c,r⟩:=p
  have hc:=HA h
  have hk:(0:Int)<=dX [61] (cC c)↔c=0:=by rcases hc with rfl | rfl | rfl<;>decide
  by_cases e:(qB l).2.2≠0
  ·have h1:yu [61] s=((qB l).1,(zE,(([]:zd),(qB l).2.2))):=by unfold yu; rw[h]; exact if_pos e
   have h2:qp s=(zE,(zE,((0:Int),(qB l).2.2))):=by unfold qp; rw[h]; exact if_pos e
   grind
  ·have h1:yu [61] s=((qB l).1,((qB r).1,(cC c,(if(qB r).2.2=0/\¬ (0<=dX [61] (cC c))then 2 else(qB r).2.2)))):=by unfold yu; rw[h]; exact if_neg e
   have h2:qp s=((qB l).1,((qB r).1,(c,(qB r).2.2))):=by unfold qp; rw[h]; exact if_neg e
   grind
theorem KI(l:List zd)(rest:zd)(xs:List Switch)(jC:List Param)(xW:List qq)(kS:List Field)(kT:List qk)(kR:List Check)(hx:kR.length<=1000000)(Et:xW.length<=1000000)(hr:rest.length<=80000) :
  ∃ Q,(uW l rest () xs jC xW kS kT kR).run=some ((HX xW.length l rest).1,((),(xs,(jC,(xW,(kS,(kT,kR++Q)))))))/\((HX xW.length l rest).1=0->Q=(HX xW.length l rest).2.2.2.2.2.2):=by
 by_cases c1:l.length=2/\zT (wd l 1)=true/\xW.length≠0
 ·have hw:zI (((xW.length:Nat):Int)-1)=(xW.length:Int)-1:=zA (by omega) (by omega)
  obtain⟨q1,q2⟩:=Nw rest
  have e0:HX xW.length l rest=((qp rest).2.2.2,[],[],[],[],[],[(wd l 1,((xW.length:Int)-1,((qp rest).2.2.1,((qp rest).1,((qp rest).2.1,())))))]):=by unfold HX; rw[if_pos c1]
  have hE:(uc rest [60,61]).run=some ((yu [60,61] rest).1,((yu [60,61] rest).2.1,((yu [60,61] rest).2.2.1,(yu [60,61] rest).2.2.2))):=QI rest [60,61] hr (by decide)
  refine⟨[(wd l 1,((xW.length:Int)-1,(PL.ZJ (λt=>zi (yu [60,61] rest).2.2.1 t) 0 [[61],[60],[60,61]],((yu [60,61] rest).1,((yu [60,61] rest).2.1,())))))],?_,?_⟩
  ·unfold uW
   refine(z6 (a:=(false,((),(xs,(jC,(xW,(kS,(kT,kR)))))))) ?_ _).trans ?_
   ·rw[z8 (by grind),zb (ji (by omega)),z6 (xT _)]
    show(T.ite (!zT (wd l 1)) _ _).run=_
    rw[c1.2.1,z8 (by rfl)]
    simp only[zl,T.zg,zm,z7]
    rw[beq_eq_false_iff_ne.2 (by omega)]
   ·dsimp only
    rw[zf,zb (ji (by omega)),z6 hE]
    rw[show vq=.ret [[61],[60],[60,61]]from rfl,z6 (z7 _),z6 (tq _ _ (by decide)),k8 _ rfl rfl rfl (by omega),hw,gx,gx]
    simp only[List.length_append,List.length_singleton,zl,T.zg,zm,z7]
    rw[e0,q1]
    rfl
  ·grind
 ·have e2:HX xW.length l rest=(2,qR):=by unfold HX; rw[if_neg c1]
  refine⟨[],?_,λh=>by rw[e2]at h; exact absurd h (by decide)⟩
  rw[e2,List.append_nil]
  refine(z6 (a:=(true,((),(xs,(jC,(xW,(kS,(kT,kR)))))))) ?_ _).trans ?_
  ·by_cases k:l.length=2
   ·rw[z8 (by rw[k]; rfl),zb (ji (by omega)),z6 (xT _)]
    show(T.ite (!zT (wd l 1)) _ _).run=_
    cases h:zT (wd l 1)with
    | false =>
     simp
    | true =>
     rw[z8 (by rfl)]
     simp only[zl,T.zg,zm,z7]
     grind
   ·rw[za (by rw[bne_iff_ne]; omega)]
    simp
  ·simp
theorem H4(l:List zd)(rest:zd)(xs:List Switch)(jC:List Param)(xW:List qq)(kS:List Field)(kT:List qk)(kR:List Check)(hx:kT.length<=1000000)(hr:rest.length<=80000) :
  ∃ Q,(wU l rest () xs jC xW kS kT kR).run=some ((WD l rest).1,((),(xs,(jC,(xW,(kS,(kT++Q,kR)))))))/\((WD l rest).1=0->Q=(WD l rest).2.2.2.2.2.1):=by
 have hI:(xd [[114,101,113,117,105,114,101,100],[115,116,114,111,110,103],[109,101,100,105,117,109],[119,101,97,107]] (nth l (1:Int) (zn .str))).run=some (rY (wd l 1)):=tq _ _ (by decide)
 have hC:(wF [[114,101,113,117,105,114,101,100],[115,116,114,111,110,103],[109,101,100,105,117,109],[119,101,97,107]] (nth l (1:Int) (zn .str))).run=some (decide (0<=rY (wd l 1))):=by
  unfold wF
  rw[z6 hI,z7]
 have hS:wA=.ret [[114,101,113,117,105,114,101,100],[115,116,114,111,110,103],[109,101,100,105,117,109],[119,101,97,107]]:=rfl
 by_cases c1:3<=l.length/\0<=rY (wd l 1)/\zT (wd l 2)=true
 ·have hg:(kH l (3:Int)).run=some ((pL l 3).1,(pL l 3).2):=WK l 3 (by decide)
  obtain⟨q1,q2⟩:=R3 rest
  have hE:(uc rest [61]).run=some ((yu [61] rest).1,((yu [61] rest).2.1,((yu [61] rest).2.2.1,(yu [61] rest).2.2.2))):=QI rest [61] hr (by decide)
  by_cases c2:(pL l 3).2=true
  ·refine⟨[(wd l 2,(rY (wd l 1),((pL l 3).1,((yu [61] rest).1,((yu [61] rest).2.1,())))))],?_,?_⟩
   ·unfold wU
    refine(z6 (a:=(false,((),(xs,(jC,(xW,(kS,(kT,kR)))))))) ?_ _).trans ?_
    ·rw[z8 (decide_eq_false (by omega)),hS,z6 (z7 _),zb (ji (by omega)),z6 hC,z8 (by rw[decide_eq_true c1.2.1]; rfl),zb (Zw (by omega)),z6 (xT _)]
     simp only[zl,T.zg,zm,z7]
     show some (!zT (wd l 2),_)=_
     grind
    ·dsimp only
     rw[zf,z6 hg]
     dsimp only
     rw[c2,z8 (by rfl),zb (Zw (by omega)),hS,z6 (z7 _),zb (ji (by omega)),z6 hI,z6 hE]
     dsimp only
     rw[k8 _ rfl rfl rfl (by omega),gx,gx]
     simp only[List.length_append,List.length_singleton,zl,T.zg,zm,z7]
     have:(yu [61] rest).2.2.2=(WD l rest).1:=by
      unfold WD
      grind
     rw[this]
     rfl
   ·intro h0
    unfold WD at h0 ⊢
    grind
  ·have e2:WD l rest=(2,qR):=by unfold WD; rw[if_neg (λh=>c2 h.2.2.2)]
   refine⟨[],?_,λh=>by rw[e2]at h; exact absurd h (by decide)⟩
   unfold wU
   rw[e2,List.append_nil]
   refine(z6 (a:=(false,((),(xs,(jC,(xW,(kS,(kT,kR)))))))) ?_ _).trans ?_
   ·rw[z8 (decide_eq_false (by omega)),hS,z6 (z7 _),zb (ji (by omega)),z6 hC,z8 (by rw[decide_eq_true c1.2.1]; rfl),zb (Zw (by omega)),z6 (xT _)]
    simp only[zl,T.zg,zm,z7]
    show some (!zT (wd l 2),_)=_
    grind
   ·dsimp only
    rw[zf,z6 hg]
    dsimp only
    rw[za (by cases h:(pL l 3).2 with | false=>rfl | true=>exact absurd h c2)]
    simp
 ·have e2:WD l rest=(2,qR):=by unfold WD; rw[if_neg (λh=>c1 ⟨h.1,h.2.1,h.2.2.1⟩)]
  refine⟨[],?_,λh=>by rw[e2]at h; exact absurd h (by decide)⟩
  unfold wU
  rw[e2,List.append_nil]
  refine(z6 (a:=(true,((),(xs,(jC,(xW,(kS,(kT,kR)))))))) ?_ _).trans ?_
  ·by_cases k:3<=l.length
   ·rw[z8 (decide_eq_false (by omega)),hS,z6 (z7 _),zb (ji (by omega)),z6 hC]
    by_cases k2:0<=rY (wd l 1)
    ·rw[z8 (by rw[decide_eq_true k2]; rfl),zb (Zw (by omega)),z6 (xT _)]
     simp only[zl,T.zg,zm,z7]
     show some (!zT (wd l 2),_)=_
     cases h:zT (wd l 2)with
     | false=>rfl
     | true=>exact absurd ⟨k,k2,h⟩ c1
    ·rw[za (by rw[decide_eq_false k2]; rfl)]
     simp only[zl,T.zg,zm,z7]
   ·rw[za (decide_eq_true (by omega))]
    simp only[zl,T.zg,zm,z7]
  ·dsimp only
   rw[zk]
   simp only[zl,T.zg,zm,z7]
def tT(w:zd):Bool:=match w with | b::_=>decide (b=35) | []=>false
def nX(np:Nat)(l:List zd)(rest:zd)(colon:Bool):Int×oo:=match l with
 | []=>if colon=true then(2,qR)else(0,qR)
 | w::_=>if tT w=true then(0,qR)else
   if colon=true then(if zi w [99,104,101,99,107]=true then HX np l rest else if zi w [114,117,108,101]=true then WD l rest else(2,qR))
   else if zi w [115,119,105,116,99,104]=true then VD l else if zi w [112,97,114,97,109]=true then Wx l
   else if zi w [112,97,103,101]=true then VC l else if zi w [102,105,101,108,100]=true then Xh np l else(2,qR)
theorem ua(np:Nat)(w:zd)(r:List zd)(rest:zd)(colon:Bool):nX np (w::r) rest colon=if tT w=true then(0,qR)else
   if colon=true then(if zi w [99,104,101,99,107]=true then HX np (w::r) rest else if zi w [114,117,108,101]=true then WD (w::r) rest else(2,qR))
   else if zi w [115,119,105,116,99,104]=true then VD (w::r)else if zi w [112,97,114,97,109]=true then Wx (w::r)
   else if zi w [112,97,103,101]=true then VC (w::r)else if zi w [102,105,101,108,100]=true then Xh np (w::r)else(2,qR):=rfl
def vr(np:Nat)(line:zd):Int×oo:=nX np (xK 32 [] (wT line [58]).1) (wT line [58]).2.1 (wT line [58]).2.2
theorem sG(c:UInt8):∀ (s cur:zd),∀ w∈xK c cur s,w≠[]/\w.length<=cur.length+s.length
 | [],cur,w,h=>by
  unfold xK at h
  grind
 | b::r,cur,w,h=>by
  unfold xK at h
  split at h
  ·split at h
   ·have:=sG c r [] w h
    grind
   ·rename_i hc
    rcases List.mem_cons.1 h with rfl | h
    ·grind
    ·have:=sG c r [] w h
     grind
  ·have:=sG c r (cur++[b]) w h
   grind
structure SmS(xs:List Switch)(jC:List Param)(xW:List qq)(kS:List Field)(kT:List qk)(kR:List Check):Prop where
 l0:xs.length<=1000000
 l1:jC.length<=1000000
 l2:xW.length<=1000000
 l3:kS.length<=1000000
 l4:kT.length<=1000000
 l5:kR.length<=1000000
def gZ(xs:List Switch)(jC:List Param)(xW:List qq)(kS:List Field)(kT:List qk)(kR:List Check)(D:oo):List Switch×List Param×List qq×List Field×List qk×List Check :=
 (xs++D.1,(jC++D.2.1,(xW++D.2.2.1,(kS++D.2.2.2.1,(kT++D.2.2.2.2.1,kR++D.2.2.2.2.2)))))
theorem kU(xs:List Switch)(jC:List Param)(xW:List qq)(kS:List Field)(kT:List qk)(kR:List Check):gZ xs jC xW kS kT kR qR=(xs,(jC,(xW,(kS,(kT,kR))))):=by
 unfold gZ qR
 simp
theorem z0f(line:zd)(hl:line.length<=80000)(xs:List Switch)(jC:List Param)(xW:List qq)(kS:List Field)(kT:List qk)(kR:List Check)(h:SmS xs jC xW kS kT kR) :
  ∃ D,(ep line () xs jC xW kS kT kR).run=some ((vr xW.length line).1,((),gZ xs jC xW kS kT kR D))/\((vr xW.length line).1=0->D=(vr xW.length line).2):=by
 obtain⟨h0,h1,h2,h3,h4,h5⟩:=h
 have hC:(strings_Cut line [58]).run=some ((wT line [58]).1,((wT line [58]).2.1,(wT line [58]).2.2)):=by
  unfold strings_Cut
  rw[zb (by omega),z7]
 have hlen:=On line 58
 unfold ep vr
 rw[z6 hC]
 dsimp only
 rw[z6 (OR _ (by omega))]
 have hm:=sG 32 (wT line [58]).1 []
 generalize xK 32 [] (wT line [58]).1=l at hm ⊢
 obtain⟨_,hr⟩:=hlen
 generalize (wT line [58]).2.1=rest at hr ⊢
 generalize (wT line [58]).2.2=colon
 cases l with
 | nil =>
  refine⟨qR,?_,?_⟩
  ·rw[zb ⟨(λ_ _ h=>by simp at h),(λh=>by simp at h)⟩,kU]
   cases colon with
   | false =>
    rw[za (by rfl)]
    simp only[zl,T.zg,zm,z7]
    rfl
   | true =>
    rw[z8 (by rfl),za (by rfl),za (by rfl)]
    simp only[zl,T.zg,zm,z7]
    rfl
  ·intro h
   cases colon with
   | false=>rfl
   | true=>rfl
 | cons w r =>
  obtain⟨m1,m2⟩:=hm w List.mem_cons_self
  cases w with
  | nil=>grind
  | cons b q =>
  have hL:(((((b::q)::r).length:Nat):Int)==(0:Int))=false:=by rw[List.length_cons,beq_eq_false_iff_ne]; omega
  have hP:decide ((0:Int)<((((b::q)::r).length:Nat):Int))=true:=by rw[List.length_cons]; exact decide_eq_true (by omega)
  have FL:q9 (0:Int) ((b::q)::r).length:=tg (by simp)
  have h0w:q9 (0:Int) (nth ((b::q)::r) (0:Int) (zn .str)).length:=tg (by show 0<(b::q).length; simp)
  have hb:(zt (nth ((b::q)::r) (0:Int) (zn .str)) (0:Int)==(35:Int))=decide (b=35):=c6 b 35
  have hw:nth ((b::q)::r) (0:Int) (zn .str)=b::q:=rfl
  rw[zb ⟨λ_ _ _=>⟨FL,h0w⟩,λ_ _=>⟨FL,h0w⟩⟩,hL,hb,hP]
  simp only[cond_false,Bool.true_and]
  by_cases c:b=35
  ·have e:nX xW.length ((b::q)::r) rest colon=(0,qR):=if_pos (decide_eq_true c)
   rw[e]
   refine⟨qR,?_,λ_=>rfl⟩
   rw[za (decide_eq_true c),kU]
   simp
  ·rw[z8 (decide_eq_false c),zf,zb (λ_=>FL),hw]
   have hn:¬ (tT (b::q)=true):=λh=>c (of_decide_eq_true h)
   cases colon with
   | true =>
    by_cases k1:zi (b::q) [99,104,101,99,107]=true
    ·have e:nX xW.length ((b::q)::r) rest true=HX xW.length ((b::q)::r) rest:=by
      rw[ua,if_neg hn,if_pos rfl,if_pos k1]
     obtain⟨Q,g1,g2⟩:=KI ((b::q)::r) rest xs jC xW kS kT kR h5 h2 (by omega)
     rw[e]
     refine⟨([],[],[],[],[],Q),?_,λh => ?_⟩
     ·rw[za (by rw[k1]; rfl)]
      simp only[zl,T.zg,zm]
      rw[z6 g1]
      dsimp only
      simp only[zl,T.zg,zm,z7]
      unfold gZ
      simp
     ·rw[g2 h]
      unfold HX at h ⊢
      split at h
      ·rename_i d; rw[if_pos d]
      ·exact absurd h (by decide)
    ·by_cases k2:zi (b::q) [114,117,108,101]=true
     ·have e:nX xW.length ((b::q)::r) rest true=WD ((b::q)::r) rest:=by
       rw[ua,if_neg hn,if_pos rfl,if_neg k1,if_pos k2]
      obtain⟨Q,g1,g2⟩:=H4 ((b::q)::r) rest xs jC xW kS kT kR h4 (by omega)
      rw[e]
      refine⟨([],[],[],[],Q,[]),?_,λh => ?_⟩
      ·rw[z8 (by rw[Bool.eq_false_iff.2 k1]; rfl),zb (λ_=>FL),za (by rw[k2]; rfl)]
       simp only[zl,T.zg,zm]
       rw[z6 g1]
       dsimp only
       simp only[zl,T.zg,zm,z7]
       unfold gZ
       simp only[List.append_nil]
      ·rw[g2 h]
       unfold WD at h ⊢
       split at h
       ·rename_i d
        rw[if_pos d]
        split at h
        ·exact absurd h (by decide)
        ·rename_i d2; rw[if_neg d2]
       ·exact absurd h (by decide)
     ·have e:nX xW.length ((b::q)::r) rest true=(2,qR):=by
       rw[ua,if_neg hn,if_pos rfl,if_neg k1,if_neg k2]
      rw[e]
      refine⟨qR,?_,λ_=>rfl⟩
      rw[z8 (by rw[Bool.eq_false_iff.2 k1]; rfl),zb (λ_=>FL),z8 (by rw[Bool.eq_false_iff.2 k2]; rfl),zk,za (by rfl),kU]
      simp only[zl,T.zg,zm,z7]
   | false =>
    have fin:∀ (v:Int),v=0\/v=2->∀ (ys:List Switch) (ys1:List Param) (ys2:List qq) (ys3:List Field) (ys4:List qk) (ys5:List Check),(T.ite (!decide (v=0)) (.ret ((2:Int),((),(ys,(ys1,(ys2,(ys3,(ys4,ys5)))))))) (.ret ((0:Int),((),(ys,(ys1,(ys2,(ys3,(ys4,ys5)))))))):T (Int×Unit×List Switch×List Param×List qq×List Field×List qk×List Check)).run=some (v,((),(ys,(ys1,(ys2,(ys3,(ys4,ys5))))))):=by
     intro v hv ys ys1 ys2 ys3 ys4 ys5
     rcases hv with rfl | rfl<;>rfl
    rw[z8 (by rfl),zb (λh=>by cases h),z8 (by rfl),zf,zb FL]
    by_cases k1:zi (b::q) [115,119,105,116,99,104]=true
    ·have e:nX xW.length ((b::q)::r) rest false=VD ((b::q)::r):=by
      rw[ua,if_neg hn,if_neg (by decide),if_pos k1]
     have g1:=Bi ((b::q)::r) xs jC xW kS kT kR h0
     rw[e]
     refine⟨((VD ((b::q)::r)).2.1,[],[],[],[],[]),?_,λh => ?_⟩
     ·rw[za k1]
      simp only[zl,T.zg,zm]
      rw[z6 g1]
      dsimp only
      unfold gZ
      simp only[List.append_nil]
      have:(VD ((b::q)::r)).1=0\/(VD ((b::q)::r)).1=2:=by unfold VD; split; exact .inl rfl; exact .inr rfl
      rcases this with h | h<;>rw[h]
      ·rw[z8 (by rfl)]; simp only[zl,T.zg,zm,z7]
      ·rw[za (by rfl)]; simp only[zl,T.zg,zm,z7]
     ·unfold VD at h ⊢
      split at h
      ·rename_i d; rw[if_pos d]
      ·exact absurd h (by decide)
    ·by_cases k2:zi (b::q) [112,97,114,97,109]=true
     ·have e:nX xW.length ((b::q)::r) rest false=Wx ((b::q)::r):=by
       rw[ua,if_neg hn,if_neg (by decide),if_neg k1,if_pos k2]
      obtain⟨Q,g1,g2⟩:=DA ((b::q)::r) xs jC xW kS kT kR h1 (λs hs=>by have:=(hm s hs).2; simp only[List.length_nil]at this; omega)
      rw[e]
      refine⟨([],Q,[],[],[],[]),?_,λh => ?_⟩
      ·rw[z8 (Bool.eq_false_iff.2 k1),zb FL,za k2]
       simp only[zl,T.zg,zm]
       rw[z6 g1]
       dsimp only
       unfold gZ
       simp only[List.append_nil]
       have:(Wx ((b::q)::r)).1=0\/(Wx ((b::q)::r)).1=2:=by unfold Wx; split; split; exact .inl rfl; exact .inr rfl; exact .inr rfl
       rcases this with h | h<;>rw[h]
       ·rw[z8 (by rfl)]; simp only[zl,T.zg,zm,z7]
       ·rw[za (by rfl)]; simp only[zl,T.zg,zm,z7]
      ·rw[g2 h]
       unfold Wx at h ⊢
       split at h
       ·rename_i d
        rw[if_pos d]
        cases hd:XZ (wd ((b::q)::r) 2)with
        | none=>rw[hd]at h; exact absurd h (show ¬ (2:Int)=0 by decide)
        | some v=>rfl
       ·exact absurd h (by decide)
     ·by_cases k3:zi (b::q) [112,97,103,101]=true
      ·have e:nX xW.length ((b::q)::r) rest false=VC ((b::q)::r):=by
        rw[ua,if_neg hn,if_neg (by decide),if_neg k1,if_neg k2,if_pos k3]
       obtain⟨Q,g1,g2⟩:=Ba ((b::q)::r) xs jC xW kS kT kR h2
       rw[e]
       refine⟨([],[],Q,[],[],[]),?_,λh => ?_⟩
       ·rw[z8 (Bool.eq_false_iff.2 k1),zb FL,z8 (Bool.eq_false_iff.2 k2),zb FL,za k3]
        simp only[zl,T.zg,zm]
        rw[z6 g1]
        dsimp only
        unfold gZ
        simp only[List.append_nil]
        have:(VC ((b::q)::r)).1=0\/(VC ((b::q)::r)).1=2:=by unfold VC; split; exact .inl rfl; exact .inr rfl
        rcases this with h | h<;>rw[h]
        ·rw[z8 (by rfl)]; simp only[zl,T.zg,zm,z7]
        ·rw[za (by rfl)]; simp only[zl,T.zg,zm,z7]
       ·rw[g2 h]
        unfold VC at h ⊢
        split at h
        ·rename_i d; rw[if_pos d]
        ·exact absurd h (by decide)
      ·by_cases k4:zi (b::q) [102,105,101,108,100]=true
       ·have e:nX xW.length ((b::q)::r) rest false=Xh xW.length ((b::q)::r):=by
         rw[ua,if_neg hn,if_neg (by decide),if_neg k1,if_neg k2,if_neg k3,if_pos k4]
        obtain⟨Q,g1,g2⟩:=KE ((b::q)::r) xs jC xW kS kT kR h3 h2
        rw[e]
        refine⟨([],[],[],Q,[],[]),?_,λh => ?_⟩
        ·rw[z8 (Bool.eq_false_iff.2 k1),zb FL,z8 (Bool.eq_false_iff.2 k2),zb FL,z8 (Bool.eq_false_iff.2 k3),zb FL,za k4]
         simp only[zl,T.zg,zm]
         rw[z6 g1]
         dsimp only
         unfold gZ
         simp only[List.append_nil]
         have:(Xh xW.length ((b::q)::r)).1=0\/(Xh xW.length ((b::q)::r)).1=2:=by unfold Xh; split; split; exact .inl rfl; exact .inr rfl; exact .inr rfl
         rcases this with h | h<;>rw[h]
         ·rw[z8 (by rfl)]; simp only[zl,T.zg,zm,z7]
         ·rw[za (by rfl)]; simp only[zl,T.zg,zm,z7]
        ·rw[g2 h]
         unfold Xh at h ⊢
         split at h
         ·rename_i d
          rw[if_pos d]
          cases hd:cr (ui ((b::q)::r))with
          | none=>rw[hd]at h; exact absurd h (show ¬ (2:Int)=0 by decide)
          | some v=>rfl
         ·exact absurd h (by decide)
       ·have e:nX xW.length ((b::q)::r) rest false=(2,qR):=by
         rw[ua,if_neg hn,if_neg (by decide),if_neg k1,if_neg k2,if_neg k3,if_neg k4]
        rw[e]
        refine⟨qR,?_,λ_=>rfl⟩
        rw[z8 (Bool.eq_false_iff.2 k1),zb FL,z8 (Bool.eq_false_iff.2 k2),zb FL,z8 (Bool.eq_false_iff.2 k3),zb FL,z8 (Bool.eq_false_iff.2 k4),za (by rfl),kU]
        simp only[zl,T.zg,zm,z7]
abbrev pV(S D:oo):oo:=gZ S.1 S.2.1 S.2.2.1 S.2.2.2.1 S.2.2.2.2.1 S.2.2.2.2.2 D
def jP:List zd->oo->Nat->(Nat×Int)⊕oo
 | [],S,_=>.inr S
 | line::r,S,k=>if(vr S.2.2.1.length line).1=0 then jP r (pV S (vr S.2.2.1.length line).2) (k+1)else .inl (k+1,(vr S.2.2.1.length line).1)
def GM(S:oo):Form:=(S.1,(S.2.1,(S.2.2.1,(S.2.2.2.1,(S.2.2.2.2.1,(S.2.2.2.2.2,()))))))
def noF:Form:=(([]:List Switch),(([]:List Param),(([]:List qq),(([]:List Field),(([]:List qk),(([]:List Check),()))))))
def cu(s:zd):Form×Int×Int:=if 16384<s.length then(noF,(0,3))else match jP (ju 10 s) qR 0 with
 | .inl (k,e)=>(noF,((k:Int),e))
 | .inr S=>if Vk (GM S)=true then(GM S,(0,0))else(noF,(0,2))
structure GS(S:oo):Prop where
 s:∀ x∈S.1,x.1.length<=600
 p:∀ x∈S.2.1,x.1.length<=600/\vK 100 x.2.1
 g:∀ x∈S.2.2.1,x.1.length<=600/\x.2.1.length<=600
 d:∀ x∈S.2.2.2.1,x.1.length<=600
 r:∀ x∈S.2.2.2.2.1,x.1.length<=600/\x.2.2.1.length<=600/\uT x.2.2.2.1/\uT x.2.2.2.2.1
 c:∀ x∈S.2.2.2.2.2,x.1.length<=600/\uT x.2.2.2.1/\uT x.2.2.2.2.1
def Eb(S:oo):Nat:=S.1.length+S.2.1.length+S.2.2.1.length+S.2.2.2.1.length+S.2.2.2.2.1.length+S.2.2.2.2.2.length
theorem z5w:GS qR:=⟨(λ_ h=>by cases h),(λ_ h=>by cases h),(λ_ h=>by cases h),(λ_ h=>by cases h),(λ_ h=>by cases h),(λ_ h=>by cases h)⟩
theorem z6A{S D:oo}(h:GS S)(k:GS D):GS (pV S D) :=
 ⟨λx hx=>(List.mem_append.1 hx).elim (h.s x) (k.s x),λx hx=>(List.mem_append.1 hx).elim (h.p x) (k.p x),λx hx=>(List.mem_append.1 hx).elim (h.g x) (k.g x),
  λx hx=>(List.mem_append.1 hx).elim (h.d x) (k.d x),λx hx=>(List.mem_append.1 hx).elim (h.r x) (k.r x),λx hx=>(List.mem_append.1 hx).elim (h.c x) (k.c x)⟩
theorem B4(S D:oo):Eb (pV S D)=Eb S+Eb D:=by
 unfold Eb pV gZ
 grind
theorem UL{s:zd}(h:zT s=true):s.length<=600:=by have:=(ZF h).1; omega
theorem IM(w:List zd)(n:Nat):(pL w n).1.length<=600:=by
 unfold pL
 split
 ·simp
 ·split
  ·rename_i h; exact UL h.2.2
  ·simp
theorem z2v{s:zd}{r:Rat}(h:XZ s=some r):vK 100 r:=by
 have:RN s=some r:=by
  unfold RN
  unfold XZ at h
  grind
 have h2:=z3H this
 exact⟨h2.1,h2.2.1,by have:=h2.2.2.1; omega,by have:=h2.2.2.2; omega⟩
theorem DE(s:zd):uT (qp s).1/\uT (qp s).2.1:=by
 have hz:uT zE:=LQ (by decide) Vx.1
 unfold qp
 split
 ·grind
 ·split
  ·grind
  ·exact⟨J3 _,J3 _⟩
theorem sE{α:Type}{x y:α}{p:α->Prop}(h:p x)(hy:y∈[x]):p y:=by grind
theorem XX(np:Nat)(line:zd):GS (vr np line).2/\Eb (vr np line).2<=1:=by
 have hz:GS qR/\Eb qR<=1:=⟨z5w,by decide⟩
 unfold vr
 generalize xK 32 [] (wT line [58]).1=l
 generalize (wT line [58]).2.1=rest
 generalize (wT line [58]).2.2=colon
 cases l with
 | nil=>cases colon; exact hz; exact hz
 | cons w r =>
  rw[ua]
  split
  ·exact hz
  ·split
   ·split
    ·unfold HX
     split
     ·rename_i h
      exact⟨⟨(λ_ h=>by cases h),(λ_ h=>by cases h),(λ_ h=>by cases h),(λ_ h=>by cases h),(λ_ h=>by cases h),λy hy=>sE (p:=λx:Check=>x.1.length<=600/\uT x.2.2.2.1/\uT x.2.2.2.2.1) ⟨UL h.2.1,DE rest⟩ hy⟩,Nat.le_refl 1⟩
     ·exact hz
    ·split
     ·unfold WD
      split
      ·rename_i h
       split
       ·exact hz
       ·exact⟨⟨(λ_ h=>by cases h),(λ_ h=>by cases h),(λ_ h=>by cases h),(λ_ h=>by cases h),λy hy=>sE (p:=λx:qk=>x.1.length<=600/\x.2.2.1.length<=600/\uT x.2.2.2.1/\uT x.2.2.2.2.1) ⟨UL h.2.2.1,IM _ _,DE rest⟩ hy,(λ_ h=>by cases h)⟩,Nat.le_refl 1⟩
      ·exact hz
     ·exact hz
   ·split
    ·unfold VD
     split
     ·rename_i h
      exact⟨⟨λy hy=>sE (p:=λx:Switch=>x.1.length<=600) (UL h.2.1) hy,(λ_ h=>by cases h),(λ_ h=>by cases h),(λ_ h=>by cases h),(λ_ h=>by cases h),(λ_ h=>by cases h)⟩,Nat.le_refl 1⟩
     ·exact hz
    ·split
     ·unfold Wx
      split
      ·rename_i h
       cases hd:XZ (wd (w::r) 2)with
       | none=>exact hz
       | some v=>exact⟨⟨(λ_ h=>by cases h),λy hy=>sE (p:=λx:Param=>x.1.length<=600/\vK 100 x.2.1) ⟨UL h.2,z2v hd⟩ hy,(λ_ h=>by cases h),(λ_ h=>by cases h),(λ_ h=>by cases h),(λ_ h=>by cases h)⟩,Nat.le_refl 1⟩
      ·exact hz
     ·split
      ·unfold VC
       split
       ·rename_i h
        exact⟨⟨(λ_ h=>by cases h),(λ_ h=>by cases h),λy hy=>sE (p:=λx:qq=>x.1.length<=600/\x.2.1.length<=600) ⟨UL h.2.1,IM _ _⟩ hy,(λ_ h=>by cases h),(λ_ h=>by cases h),(λ_ h=>by cases h)⟩,Nat.le_refl 1⟩
       ·exact hz
      ·split
       ·unfold Xh
        split
        ·rename_i h
         cases hd:cr (ui (w::r))with
         | none=>exact hz
         | some v=>exact⟨⟨(λ_ h=>by cases h),(λ_ h=>by cases h),(λ_ h=>by cases h),λy hy=>sE (p:=λx:Field=>x.1.length<=600) (UL h.2.1) hy,(λ_ h=>by cases h),(λ_ h=>by cases h)⟩,Nat.le_refl 1⟩
        ·exact hz
       ·exact hz
theorem UN:∀ (ls:List zd) (S:oo) (k:Nat) (S':oo),jP ls S k=.inr S'->GS S->GS S'/\Eb S'<=Eb S+ls.length
 | [],S,k,S',h,hg=>by
  injection h with h
  grind
 | line::r,S,k,S',h,hg=>by
  unfold jP at h
  split at h
  ·obtain⟨a1,a2⟩:=XX S.2.2.1.length line
   have:=UN r _ _ S' h (z6A hg a1)
   rw[B4]at this
   grind
  ·cases h
theorem Bl(c:UInt8):∀ s:zd,(ju c s).length<=s.length+1
 | []=>Nat.le_refl _
 | b::r=>by
  have:=Bl c r
  unfold ju
  split
  ·grind
  ·cases h:ju c r with
   | nil=>simp[NX]
   | cons x y=>rw[h]at this; simp only[NX,List.length_cons]at *; omega
theorem N0(c:UInt8):∀ (s:zd),∀ l∈ju c s,l.length<=s.length
 | [],l,h=>by rw[show ju c []=[[]]from rfl]at h; rw[List.mem_singleton.1 h]; exact Nat.le_refl _
 | b::r,l,h=>by
  have ih:=N0 c r
  unfold ju at h
  split at h
  ·grind
  ·cases q:ju c r with
   | nil=>rw[q]at h; rw[List.mem_singleton.1 (show l∈[[b]]from h)]; simp
   | cons x y =>
    rw[q]at h ih
    rcases List.mem_cons.1 (show l∈(b::x)::y from h)with rfl | h
    ·grind
    ·grind
theorem z0l{S:oo}(h:Eb S<=1000000):SmS S.1 S.2.1 S.2.2.1 S.2.2.2.1 S.2.2.2.2.1 S.2.2.2.2.2:=by
 unfold Eb at h
 exact⟨by omega,by omega,by omega,by omega,by omega,by omega⟩
theorem Lw{α:Type}(l:List α):List.drop (0:Nat) (List.take ((0:Nat)+l.length) l)=l:=by simp
def stL(S:oo):List Check×List Check×List qk×List qk×List Switch×List Switch×List Param×List Param×List qq×List qq×List Field×List Field:=([],(S.2.2.2.2.2,([],(S.2.2.2.2.1,([],(S.1,([],(S.2.1,([],(S.2.2.1,([],S.2.2.2.1)))))))))))
theorem nR(s:zd)(hF:∀ S,jP (ju 10 s) qR 0=.inr S->FS (GM S)):(ko s).run=some (cu s):=by
 unfold ko cu
 by_cases hs:16384<s.length
 ·rw[if_pos hs,za (decide_eq_true (by omega)),z7]
  rfl
 ·rw[if_neg hs,z8 (decide_eq_false (by omega))]
  have nN:(strings_Split s [10]).run=some (ju 10 s):=by
   unfold strings_Split
   rw[zb ⟨by omega,rfl⟩,z7]
   rfl
  rw[z6 nN]
  have hln:=Bl 10 s
  have hmm:=N0 10 s
  generalize ju 10 s=ls at hln hmm hF ⊢
  have key:∀ (m k:Nat) (S:oo),k+m=ls.length->Eb S<=k->∃ R,(fA ls (ls.length:Int) ((k:Int),((),((),stL S)))).run=some R /\
    (match jP (ls.drop k) S k with
     | .inl (n,e)=>∃ Z,R=.inr ((n:Int),(e,(noF,Z)))
     | .inr S'=>R=.inl ((),((),stL S'))):=by
   intro m
   induction m with
   | zero =>
    intro k S hk ht
    have:k=ls.length:=by omega
    subst this
    rw[List.drop_length]
    refine⟨.inl ((),((),stL S)),zL ?_,rfl⟩
    unfold kG stL
    simp
   | succ m ih =>
    intro k S hk ht
    have h1:k<ls.length:=by omega
    have hd:=List.drop_eq_getElem_cons h1
    obtain⟨D,g1,g2⟩:=z0f ls[k] (by have:=hmm _ (List.getElem_mem h1); omega) S.1 S.2.1 S.2.2.1 S.2.2.2.1 S.2.2.2.2.1 S.2.2.2.2.2 (z0l (by omega))
    rw[hd]
    unfold jP
    by_cases c:(vr S.2.2.1.length ls[k]).1=0
    ·rw[if_pos c]
     have hD:=g2 c
     subst hD
     obtain⟨a1,a2⟩:=XX S.2.2.1.length ls[k]
     obtain⟨R,r1,r2⟩:=ih (k+1) (pV S (vr S.2.2.1.length ls[k]).2) (by omega) (by rw[B4]; omega)
     refine⟨R,?_,r2⟩
     refine(qu (s':=(((k+1:Nat):Int),((),((),stL (pV S (vr S.2.2.1.length ls[k]).2))))) ?_).trans r1
     unfold kG stL
     dsimp only
     rw[za (vX h1),zb (zH h1),bC h1]
     simp only[zl,T.zg,zm]
     rw[z6 g1,c]
     unfold gZ
     dsimp only
     rw[z8 (by rfl)]
     simp only[zl,T.zg,zm,z7]
     rw[fx k _ h1 (by omega)]
     rfl
    ·rw[if_neg c]
     refine⟨.inr (((k+1:Nat):Int),((vr S.2.2.1.length ls[k]).1,(noF,((),stL (pV S D))))),zL ?_,_,rfl⟩
     ·unfold kG stL
      dsimp only
      rw[za (vX h1),zb (zH h1),bC h1]
      simp only[zl,T.zg,zm]
      rw[z6 g1]
      unfold gZ
      dsimp only
      rw[za (by simpa using c)]
      simp only[zl,T.zg,zm,z7]
      rw[fx k _ h1 (by omega)]
      rfl
  obtain⟨R,r1,r2⟩:=key ls.length 0 qR (by omega) (Nat.le_refl _)
  rw[List.drop_zero]at r2
  have r1:(fA ls (ls.length:Int) ((0:Int),((),((),(([]:List Check),(([]:List Check),(([]:List qk),(([]:List qk),(([]:List Switch),(([]:List Switch),(([]:List Param),(([]:List Param),(([]:List qq),(([]:List qq),(([]:List Field),([]:List Field)))))))))))))))).run=some R:=r1
  simp only[zl,T.zg,zm]
  rw[z6 r1]
  cases q:jP ls qR 0 with
  | inl p =>
   obtain⟨n,e⟩:=p
   rw[q]at r2
   obtain⟨Z,rfl⟩:=r2
   rfl
  | inr S =>
   rw[q]at r2
   dsimp only at r2
   rw[r2,Sum.elim_inl]
   unfold stL
   dsimp only
   simp only[Lw,zl,T.zg,zm]
   have hI:(mv (S.1,(S.2.1,(S.2.2.1,(S.2.2.2.1,(S.2.2.2.2.1,(S.2.2.2.2.2,()))))))).run=some (Vk (GM S)):=X7 (GM S) (hF S q)
   rw[z6 hI]
   cases Vk (GM S)with
   | false=>rw[za (by rfl),z7]; rfl
   | true =>
    rw[z8 (by rfl)]
    simp only[zl,T.zg,zm,z7]
    rfl
theorem L2{p:UInt8->Bool}{s:zd}(h:s.all p=true)(c:UInt8)(hc:p c=false):c ∉ s:=by grind
theorem sA{s:zd}(h:zT s=true):(58:UInt8) ∉ s:=L2 (ZF h).2 58 (by decide)
theorem N3{c:UInt8}(h1:wE c=false)(h2:c≠46)(h3:c≠47){t:zd}{p:Nat×Nat}(h:XM t=some p):c ∉ t:=by
 intro hm
 rw[<- List.takeWhile_append_dropWhile (p:=wE) (l:=t)]at hm
 rcases List.mem_append.1 hm with hm | hm
 ·have oJ:(t.takeWhile wE).all wE=true:=List.all_takeWhile
  grind
 ·unfold XM at h
  split at h
  ·cases h
  ·split at h
   ·grind
   ·rename_i b q hq
    rw[hq]at hm
    split at h
    ·cases h
    ·rename_i hd
     have hdq:qX q=true:=by
      grind
     rcases List.mem_cons.1 hm with rfl | hm
     ·grind
     ·exact L2 hdq c h1 hm
theorem z2y{c:UInt8}(h1:wE c=false)(h2:c≠46)(h3:c≠47)(h4:c≠45){s:zd}{p:Nat×Nat}(h:oi s=some p):c ∉ s:=by
 unfold oi yU at h
 intro hm
 split at h
 ·rename_i hp
  cases s with
  | nil=>cases hm
  | cons b r =>
   rcases List.mem_cons.1 hm with e | hm
   ·grind
   ·exact N3 h1 h2 h3 h hm
 ·exact N3 h1 h2 h3 h hm
theorem z3v{c:UInt8}(h1:wE c=false)(h2:c≠46)(h3:c≠47)(h4:c≠45){s:zd}{r:Rat}(h:XZ s=some r):c ∉ s:=by
 unfold XZ at h
 split at h
 ·cases h
 ·cases q:oi s with
  | none=>grind
  | some p=>exact z2y h1 h2 h3 h4 q
theorem dM{x k:zd}(h:zi x k=true){c:UInt8}(hk:c ∉ k):c ∉ x:=by
 rw[xQ,decide_eq_true_eq]at h
 grind
theorem Qj(c:UInt8)(hc:c≠32):∀ (s cur:zd),c∈cur\/c∈s->∃ x∈xK 32 cur s,c∈x
 | [],cur,h=>by
  rcases h with h | h
  ·unfold xK
   grind
  ·cases h
 | b::r,cur,h=>by
  unfold xK
  by_cases hb:b=32
  ·rw[if_pos hb]
   have h:c∈cur\/c∈r:=h.elim .inl λh=>(List.mem_cons.1 h).elim (λe=>absurd (e.trans hb) hc) .inr
   by_cases e:cur=[]
   ·rw[if_pos e]
    refine Qj c hc r [] (.inr (h.elim (λh => ?_) id))
    grind
   ·rw[if_neg e]
    rcases h with h | h
    ·grind
    ·obtain⟨x,h1,h2⟩:=Qj c hc r [] (.inr h)
     grind
  ·rw[if_neg hb]
   refine Qj c hc r (cur++[b]) (h.elim (λh=>.inl (List.mem_append_left _ h)) λh=>(List.mem_cons.1 h).elim (λe=>.inl (by grind)) .inr)
theorem G7:∀ (s cur:zd),cur≠[]->∃ z w,xK 32 cur s=(cur++z)::w
 | [],cur,h=>⟨[],[],by unfold xK; rw[if_neg h,List.append_nil]⟩
 | b::r,cur,h=>by
  unfold xK
  by_cases hb:b=32
  ·rw[if_pos hb,if_neg h]
   simp
  ·rw[if_neg hb]
   obtain⟨z,w,e⟩:=G7 r (cur++[b]) (by simp)
   grind
theorem HW(r:zd):∀ (h cur:zd),∃ x w,xK 32 cur (h++58::r)=x::w/\((xK 32 cur h=[]/\∃ z,x=58::z)\/∃ a l,xK 32 cur h=a::l/\(x=a\/(l=[]/\∃ z,x=a++58::z)))
 | [],cur=>by
  obtain⟨z,w,e⟩:=G7 r (cur++[58]) (by simp)
  refine⟨(cur++[58])++z,w,?_,?_⟩
  ·show xK 32 cur (58::r)=_
   rw[<- e]
   rfl
  ·unfold xK
   grind
 | b::h,cur=>by
  show ∃ x w,xK 32 cur (b::(h++58::r))=_/\_
  unfold xK
  by_cases hb:b=32
  ·rw[if_pos hb,if_pos hb]
   by_cases c:cur=[]
   ·rw[if_pos c,if_pos c]
    exact HW r h []
   ·rw[if_neg c,if_neg c]
    grind
  ·rw[if_neg hb,if_neg hb]
   exact HW r h (cur++[b])
theorem zas{w:List zd}(h0:(VD w).1=0)(h:zi (wd w 0) [115,119,105,116,99,104]=true):∀ x∈w,(58:UInt8) ∉ x:=by
 unfold VD at h0
 split at h0
 ·rename_i c
  obtain⟨c1,c2,c3⟩:=c
  match w,c1 with
  | [a,b,d],_ =>
   intro x hx
   simp at hx
   rcases hx with rfl | rfl | rfl
   ·exact dM h (by decide)
   ·exact sA c2
   ·rcases c3 with c3 | c3
    ·exact dM c3 (by decide)
    ·exact dM c3 (by decide)
 ·grind
theorem z9h{w:List zd}(h0:(Wx w).1=0)(h:zi (wd w 0) [112,97,114,97,109]=true):∀ x∈w,(58:UInt8) ∉ x:=by
 unfold Wx at h0
 split at h0
 ·rename_i c
  obtain⟨c1,c2⟩:=c
  match w,c1 with
  | [a,b,d],_ =>
   cases hd:XZ (wd [a,b,d] 2)with
   | none=>grind
   | some v =>
    intro x hx
    simp at hx
    rcases hx with rfl | rfl | rfl
    ·exact dM h (by decide)
    ·exact sA c2
    ·exact z3v (by decide) (by decide) (by decide) (by decide) hd
 ·grind
theorem zcI{w:List zd}(h0:(VC w).1=0)(h:zi (wd w 0) [112,97,103,101]=true):∀ x∈w,(58:UInt8) ∉ x:=by
 unfold VC at h0
 split at h0
 ·rename_i c
  obtain⟨c1,c2,c3⟩:=c
  unfold pL at c3
  split at c3
  ·rename_i d
   match w,d with
   | [a,b],_ =>
    intro x hx
    simp at hx
    rcases hx with rfl | rfl
    ·exact dM h (by decide)
    ·exact sA c2
  ·split at c3
   ·rename_i d
    obtain⟨d1,d2,d3⟩:=d
    match w,d1 with
    | [a,b,e,f],_ =>
     intro x hx
     simp at hx
     rcases hx with rfl | rfl | rfl | rfl
     ·exact dM h (by decide)
     ·exact sA c2
     ·exact dM (x:=x) d2 (by decide)
     ·exact sA d3
   ·cases c3
 ·grind
theorem Ta{w:List zd}{k:Int}(h:cr w=some k):∀ x∈w,(58:UInt8) ∉ x:=by
 unfold cr at h
 split at h
 ·simp
 ·rename_i a c
  split at h
  ·rename_i d
   intro x hx
   simp at hx
   rcases hx with rfl | rfl
   ·exact dM d.1 (by decide)
   ·intro hm
    have:=List.mem_singleton.1 hm
    subst this
    grind
  ·cases h
 ·cases h
theorem zbC{np:Nat}{w:List zd}(h0:(Xh np w).1=0)(h:zi (wd w 0) [102,105,101,108,100]=true):∀ x∈w,(58:UInt8) ∉ x:=by
 unfold Xh at h0
 split at h0
 ·rename_i c
  obtain⟨c1,c2,c3⟩:=c
  cases hd:cr (ui w)with
  | none=>grind
  | some v =>
   have hs:=Ta hd
   match w,c1 with
   | a::b::t,_ =>
    intro x hx
    rcases List.mem_cons.1 hx with rfl | hx
    ·exact dM h (by decide)
    ·rcases List.mem_cons.1 hx with rfl | hx
     ·exact sA c2
     ·unfold ui at hs
      cases t with
      | nil=>cases hx
      | cons y t =>
       cases q:da (y::t)with
       | true =>
        rcases List.mem_cons.1 hx with rfl | hx
        ·exact dM (show zi x [109,117,115,116]=true from q) (by decide)
        ·grind
       | false =>
        grind
 ·grind
theorem Sa(w:List zd):(VD w).1≠0->VD w=(2,qR):=by unfold VD; split; exact λh=>absurd rfl h; exact λ_=>rfl
theorem z68(w:List zd):(Wx w).1≠0->Wx w=(2,qR):=by
 unfold Wx; split
 ·grind
 ·simp
theorem z7D(w:List zd):(VC w).1≠0->VC w=(2,qR):=by unfold VC; split; exact λh=>absurd rfl h; exact λ_=>rfl
theorem Re(np:Nat)(w:List zd):(Xh np w).1≠0->Xh np w=(2,qR):=by
 unfold Xh; split
 ·grind
 ·simp
def US(np:Nat)(s:zd):Int×oo:=if(wT s [58]).2.2=true then(if zi (wd (xK 32 [] (wT s [58]).1) 0) [99,104,101,99,107]=true then HX np (xK 32 [] (wT s [58]).1) (wT s [58]).2.1
  else if zi (wd (xK 32 [] (wT s [58]).1) 0) [114,117,108,101]=true then WD (xK 32 [] (wT s [58]).1) (wT s [58]).2.1 else(2,qR))else(2,qR)
def Kg(np:Nat)(s:zd)(w:List zd):Int×oo:=if zi (wd w 0) [115,119,105,116,99,104]=true then VD w else if zi (wd w 0) [112,97,114,97,109]=true then Wx w
 else if zi (wd w 0) [112,97,103,101]=true then VC w else if zi (wd w 0) [102,105,101,108,100]=true then Xh np w
 else if zi (wd w 0) [99,104,101,99,107]=true\/zi (wd w 0) [114,117,108,101]=true then US np s else(2,qR)
theorem Tj(np:Nat)(a:zd)(rest:zd):HX np [a] rest=(2,qR):=by rfl
theorem z0v(a:zd)(rest:zd):WD [a] rest=(2,qR):=by rfl
theorem O0(np:Nat)(s:zd)(h:xK 32 [] s=[]):vr np s=(0,qR):=by
 have h58:(58:UInt8) ∉ s:=λhm=>by
  obtain⟨x,hx,_⟩:=Qj 58 (by decide) s [] (.inr hm)
  grind
 unfold vr
 rw[cE 58 s h58,h]
 rfl
theorem YK(np:Nat)(s:zd)(x:zd)(w:List zd):Kg np s (x::w)=if zi x [115,119,105,116,99,104]=true then VD (x::w)else if zi x [112,97,114,97,109]=true then Wx (x::w)
 else if zi x [112,97,103,101]=true then VC (x::w)else if zi x [102,105,101,108,100]=true then Xh np (x::w)
 else if zi x [99,104,101,99,107]=true\/zi x [114,117,108,101]=true then US np s else(2,qR):=rfl
theorem Cz(np:Nat)(s:zd)(x:zd)(w:List zd)(h:(58:UInt8)∈x):Kg np s (x::w)=(2,qR):=by
 rw[YK,if_neg (λk=>dM k (by decide) h),if_neg (λk=>dM k (by decide) h),if_neg (λk=>dM k (by decide) h),if_neg (λk=>dM k (by decide) h),
  if_neg (λk=>k.elim (λk=>dM k (by decide) h) (λk=>dM k (by decide) h))]
theorem bV{x a b:zd}(h:zi x a=true)(Ki:a≠b):¬ (zi x b=true):=λk=>by
 rw[xQ,decide_eq_true_eq]at h k
 grind
theorem T4(np:Nat)(s:zd)(x:zd)(w:List zd)(h:xK 32 [] s=x::w):vr np s=if tT x=true then(0,qR)else Kg np s (x::w):=by
 by_cases h58:(58:UInt8)∈s
 ·obtain⟨a,b,rfl,ha⟩:=List.eq_append_cons_of_mem h58
  have cF:=lO 58 a b ha
  have hl:vr np (a++58::b)=nX np (xK 32 [] a) b true:=by unfold vr; rw[cF]
  obtain⟨x',w',e,hc⟩:=HW b a []
  rw[h]at e
  injection e with e1 e2
  subst e1 e2
  obtain⟨y,hy,Ie⟩:=Qj 58 (by decide) (a++58::b) [] (.inr (by simp))
  rw[h]at hy
  rw[hl]
  rcases hc with⟨c1,z,rfl⟩ | ⟨a0,l,c1,c2⟩
  ·rw[c1,if_neg (show ¬ (tT (58::z)=true) by simp[tT]),Cz _ _ _ _ (by simp)]
   rfl
  ·have uh:a0≠[]:=(sG 32 a [] a0 (by rw[c1]; exact List.mem_cons_self)).1
   rw[c1,ua,if_pos rfl]
   rcases c2 with rfl | ⟨rfl,z,rfl⟩
   ·split
    ·rfl
    ·rw[YK]
     by_cases k1:zi x [115,119,105,116,99,104]=true
     ·rw[if_pos k1,if_neg (bV k1 (by decide)),if_neg (bV k1 (by decide)),Sa (x::w) λh0=>zas (w:=x::w) h0 k1 y hy Ie]
     ·rw[if_neg k1]
      by_cases k2:zi x [112,97,114,97,109]=true
      ·rw[if_pos k2,if_neg (bV k2 (by decide)),if_neg (bV k2 (by decide)),z68 (x::w) λh0=>z9h (w:=x::w) h0 k2 y hy Ie]
      ·rw[if_neg k2]
       by_cases k3:zi x [112,97,103,101]=true
       ·rw[if_pos k3,if_neg (bV k3 (by decide)),if_neg (bV k3 (by decide)),z7D (x::w) λh0=>zcI (w:=x::w) h0 k3 y hy Ie]
       ·rw[if_neg k3]
        by_cases k4:zi x [102,105,101,108,100]=true
        ·rw[if_pos k4,if_neg (bV k4 (by decide)),if_neg (bV k4 (by decide)),Re np (x::w) λh0=>zbC (w:=x::w) h0 k4 y hy Ie]
        ·rw[if_neg k4]
         unfold US
         rw[cF]
         dsimp only
         rw[if_pos rfl,c1]
         show _=if zi x _=true\/_ then(if zi x _=true then _ else if zi x _=true then _ else _)else _
         grind
   ·have hh:tT (a0++58::z)=tT a0:=by
     cases a0 with
     | nil=>rfl
     | cons=>rfl
    rw[hh,Cz _ _ _ _ (by simp),Tj,z0v]
    simp
 ·unfold vr Kg US
  rw[cE 58 s h58]
  rw[h,ua,if_neg (show ¬ (false=true) by decide),if_neg (show ¬ (false=true) by decide)]
  split
  ·rfl
  ·show _=(if zi x _=true then _ else if zi x _=true then _ else if zi x _=true then _ else if zi x _=true then _ else _)
   simp
theorem YE(s:zd)(hs:s.length<=1000000)(c:UInt8):∀ (q a:zd),s=a++q->c ∉ a->(mH s ((c.toNat:Nat):Int) (a.length:Int)).run=some (if c∈s then .inr ((wT s [c]).1.length:Int)else .inl ())
 | [],a,he,ha=>by
  rw[List.append_nil]at he
  subst he
  rw[if_neg ha]
  refine zL ?_
  unfold b8
  simp
 | b::q,a,he,ha=>by
  have hl:a.length<s.length:=by rw[he,List.length_append,List.length_cons]; omega
  have hb:zt s (a.length:Int)=((b.toNat:Nat):Int):=by rw[he]; exact Jc a b q
  by_cases k:b=c
  ·subst k
   rw[if_pos (by grind)]
   have hc:=lO b a q ha
   rw[<- he]at hc
   rw[hc]
   refine zL ?_
   unfold b8
   rw[za (vX hl),zb (zH hl),hb,za (by simp),z7]
  ·have ha2:c ∉ a++[b]:=λh=>(List.mem_append.1 h).elim ha λh=>k (List.mem_singleton.1 h).symm
   refine(qu (s':=((a++[b]).length:Int)) ?_).trans (YE s hs c q (a++[b]) (by grind) ha2)
   unfold b8
   rw[za (vX hl),zb (zH hl),hb,c6,decide_eq_false k,zf,z7,fx a.length _ hl (by omega),List.length_append,List.length_singleton]
theorem T0(s:zd)(hs:s.length<=1000000)(c:UInt8):(mc s ((c.toNat:Nat):Int)).run=some (if c∈s then((wT s [c]).1.length:Int)else -1):=by
 have:=YE s hs c s [] rfl (λh=>by cases h)
 have:(mH s ((c.toNat:Nat):Int) 0).run=_:=this
 unfold mc
 rw[z6 this]
 split<;>rfl
theorem oa(s:zd):(uS s).run=some (rY s):=by
 have step:∀ (n:Nat),n<4->(y5 s (n:Int)).run=some (if zi (lL (n:Int)) s=true then .inr (.inr (n:Int))else .inl ((n+1:Nat):Int)):=by
  intro n hn
  unfold y5
  rw[za (decide_eq_true (by omega)),z6 (Qe _)]
  cases h:zi (lL (n:Int)) s with
  | true=>rfl
  | false =>
   rw[zf,z7,zA (by omega) (by omega)]
   rfl
 have sym:∀ a b:zd,zi a b=zi b a:=λa b=>by
  rw[xQ,xQ]
  grind
 have key:(lT s 0).run=some (if rY s = -1 then .inl ()else .inr (rY s)):=by
  have e:rY s=if zi (lL 0) s=true then 0 else if zi (lL 1) s=true then 1 else if zi (lL 2) s=true then 2 else if zi (lL 3) s=true then 3 else -1:=by
   rw[sym (lL 0),sym (lL 1),sym (lL 2),sym (lL 3)]
   rfl
  by_cases c0:zi (lL 0) s=true
  ·rw[if_pos c0]at e
   rw[e]
   exact zL ((step 0 (by decide)).trans (congrArg some (if_pos c0)))
  ·rw[if_neg c0]at e
   refine(qu ((step 0 (by decide)).trans (congrArg some (if_neg c0)))).trans ?_
   by_cases c1:zi (lL 1) s=true
   ·rw[if_pos c1]at e
    rw[e]
    exact zL ((step 1 (by decide)).trans (congrArg some (if_pos c1)))
   ·rw[if_neg c1]at e
    refine(qu ((step 1 (by decide)).trans (congrArg some (if_neg c1)))).trans ?_
    by_cases c2:zi (lL 2) s=true
    ·rw[if_pos c2]at e
     rw[e]
     exact zL ((step 2 (by decide)).trans (congrArg some (if_pos c2)))
    ·rw[if_neg c2]at e
     refine(qu ((step 2 (by decide)).trans (congrArg some (if_neg c2)))).trans ?_
     by_cases c3:zi (lL 3) s=true
     ·rw[if_pos c3]at e
      rw[e]
      exact zL ((step 3 (by decide)).trans (congrArg some (if_pos c3)))
     ·rw[if_neg c3]at e
      refine(qu ((step 3 (by decide)).trans (congrArg some (if_neg c3)))).trans ?_
      rw[e]
      refine zL ?_
      rfl
 unfold uS
 rw[z6 key]
 by_cases h:rY s = -1
 ·rw[if_pos h,h]; rfl
 ·rw[if_neg h]; rfl
theorem z2r:∀ l:List zd,(((Nat.cast (List.length l):Int)==(2:Int))&&((zi (nth l (0:Int) (zn .str)) ([115,99,97,108,101]:zd))&&(((Nat.cast (List.length (nth l (1:Int) (zn .str))):Int)==(1:Int))&&((decide ((48:Int)<=(zt (nth l (1:Int) (zn .str)) (0:Int))))&&(decide ((zt (nth l (1:Int) (zn .str)) (0:Int))<=(57:Int)))))))=(K9 l).isSome
 | []=>rfl
 | [_]=>rfl
 | [a,[]]=>by
  show(true&&(zi a [115,99,97,108,101]&&(false&&_)))=false
  simp
 | [a,x::y::r]=>by
  show(_&&(_&&(((((x::y::r):zd).length:Nat):Int)==1&&_)))=false
  grind
 | [a,[c]]=>by
  show(true&&(zi a [115,99,97,108,101]&&(true&&(decide ((48:Int)<=(c.toNat:Int))&&decide ((c.toNat:Int)<=57)))))=_
  rw[H2,Bool.true_and,Bool.true_and]
  grind
 | _::_::z::r=>by
  rw[List.length_cons,List.length_cons,List.length_cons,beq_eq_false_iff_ne.2 (by omega),Bool.false_and]
  unfold K9
  simp
theorem z6F{l:List zd}{v:Int}(h:K9 l=some v):l.length=2/\(nth l (1:Int) (zn .str)).length=1/\zI ((zI (zt (nth l (1:Int) (zn .str)) (0:Int)))-(48:Int))=v:=by
 unfold K9 at h
 split at h
 ·rename_i a c
  split at h
  ·rename_i d
   injection h with h
   refine⟨rfl,rfl,?_⟩
   show zI (zI ((c.toNat:Int))-48)=v
   rw[zA (x:=(c.toNat:Int)) (by omega) (by omega),zA (by omega) (by omega)]
   exact h
  ·cases h
 ·cases h
theorem Kv(w:List zd)(np:Nat)(hn:np<=1000000):∃ F b,(kK w ((np:Int)-1)).run=some (F,b)/\b=decide ((Xh np w).1=0)/\(b=true->Xh np w=(0,[],[],[],[F],[],[])):=by
 by_cases c1:2<=w.length/\np≠0
 ·have d2:wi (e:=.str) (2:Int) ((w.length:Nat):Int) w=w.drop 2:=sH (e:=.str) w 2
  have d3:wi (e:=.str) (1:Int) (((w.drop 2).length:Nat):Int) (w.drop 2)=w.drop 3:=by
   rw[show w.drop 3=(w.drop 2).drop 1 by rw[List.drop_drop]]
   exact sH (e:=.str) (w.drop 2) 1
  have hm:(decide ((0:Int)<(((w.drop 2).length:Nat):Int))&&zi (nth (w.drop 2) (0:Int) (zn .str)) ([109,117,115,116]:zd))=da (w.drop 2):=by
   unfold da
   cases w.drop 2 with
   | nil=>rfl
   | cons x r=>rw[decide_eq_true (by rw[List.length_cons]; omega)]; rfl
  have P4:Xh np w=(if zT (wd w 1)=true then(match cr (ui w)with | some k=>(0,[],[],[],[(wd w 1,((np:Int)-1,(da (w.drop 2),(k,()))))],[],[]) | none=>(2,qR))else(2,qR):Int×oo):=by
   unfold Xh
   grind
  refine⟨(wd w 1,((np:Int)-1,(da (w.drop 2),((K9 (ui w)).getD 0,())))),(cr (ui w)).isSome&&zT (wd w 1),?_,?_,?_⟩
  ·unfold kK
   rw[z8 (by rw[decide_eq_false (by omega),decide_eq_false (by omega)]; rfl),zb (ji (by omega)),zb (xU.2 ⟨by omega,by omega,by omega⟩),d2]
   refine(z6 (a:=(ui w,((([]:zd),((0:Int),(false,((0:Int),())))),(wd w 1,((np:Int)-1,(da (w.drop 2),((0:Int),()))))))) ?_ _).trans ?_
   ·rw[zb (λh=>tg (by have:=of_decide_eq_true h; omega)),hm]
    unfold ui
    cases q:da (w.drop 2)with
    | true =>
     have hp:0<(w.drop 2).length:=by
      grind
     rw[zk,zb (xU.2 ⟨by omega,by omega,by omega⟩),d3,z7]
     rfl
    | false=>rfl
   ·dsimp only
    clear P4
    generalize ui w=l
    generalize da (w.drop 2)=mu
    refine(z6 (a:=((match K9 l with | some _=>[] | none=>l),((([]:zd),((0:Int),(false,((0:Int),())))),(wd w 1,((np:Int)-1,(mu,((K9 l).getD 0,()))))))) ?_ _).trans ?_
    ·rw[zb (λh=>by
      rw[beq_iff_eq]at h
      exact⟨tg (by omega),λ_=>⟨ji (by omega),λh2=>by
       rw[beq_iff_eq]at h2
       exact⟨ji (by omega),tg (by omega),λ_=>⟨ji (by omega),tg (by omega)⟩⟩⟩⟩),z2r]
     cases q:K9 l with
     | none =>
      show(T.ite false _ _).run=_
      rw[zf,z7]
      rfl
     | some v =>
      obtain⟨v1,v2,v3⟩:=z6F q
      show(T.ite true _ _).run=_
      rw[zk,zb (ji (by omega)),zb (tg (by omega)),z7,v3]
      rfl
    ·dsimp only
     cases q:K9 l with
     | some v =>
      have:cr l=some v:=by
       cases l with
       | nil=>cases q
       | cons x r=>rw[mm,q]
      rw[this]
      dsimp only
      rw[za (by rfl),z6 (qA _),z7]
      rfl
     | none =>
      cases l with
      | nil =>
       rw[za (by rfl),z6 (qA _),z7]
       rfl
      | cons x r =>
       rw[mm,q]
       dsimp only
       rw[z8 (by rw[List.length_cons,beq_eq_false_iff_ne]; omega),z7]
       rfl
  ·rw[P4]
   cases zT (wd w 1)with
   | false=>rw[if_neg (by decide),Bool.and_false]; rfl
   | true =>
    rw[if_pos rfl,Bool.and_true]
    cases cr (ui w)with
    | none=>rfl
    | some v=>rfl
  ·intro h
   rw[Bool.and_eq_true]at h
   rw[P4,if_pos h.2]
   cases q:cr (ui w)with
   | none=>rw[q]at h; cases h.1
   | some v =>
    have:(K9 (ui w)).getD 0=v:=by
     generalize ui w=l at q
     cases l with
     | nil=>injection q
     | cons x r=>rw[mm]at q; rw[q]; rfl
    rw[this]
 ·have e2:Xh np w=(2,qR):=by unfold Xh; rw[if_neg (λh=>c1 ⟨h.1,h.2.2⟩)]
  refine⟨(([]:zd),((0:Int),(false,((0:Int),())))),false,?_,by rw[e2]; rfl,λh=>by cases h⟩
  unfold kK
  rw[za,z7]
  by_cases k:2<=w.length
  ·have:np=0:=Classical.byContradiction λh=>c1 ⟨k,h⟩
   subst this
   rw[decide_eq_true (show((0:Nat):Int)-1<0 by decide),Bool.or_true]
  ·rw[decide_eq_true (by omega)]; rfl
theorem Cj{l:List zd}(h:(pL l 3).2=true):3<=l.length:=by
 unfold pL at h
 grind
theorem NZ(s:zd)(hs:s.length<=80000)(xs:List Switch)(jC:List Param)(xW:List qq)(kS:List Field)(kT:List qk)(kR:List Check)(h:SmS xs jC xW kS kT kR) :
  ∃ D,(dN s () xs jC xW kS kT kR).run=some ((US xW.length s).1,((),gZ xs jC xW kS kT kR D))/\((US xW.length s).1=0->D=(US xW.length s).2):=by
 obtain⟨h0,h1,h2,h3,h4,h5⟩:=h
 have hf:(mc s (58:Int)).run=_:=T0 s (by omega) 58
 unfold dN
 by_cases h58:(58:UInt8)∈s
 ·obtain⟨a,b,he,ha⟩:=List.eq_append_cons_of_mem h58
  have cF:wT s [58]=(a,b,true):=by rw[he]; exact lO 58 a b ha
  have hl:s.length=a.length+(b.length+1):=by rw[he,List.length_append,List.length_cons]
  rw[if_pos h58,cF]at hf
  dsimp only at hf
  have hw:zI (((a.length:Nat):Int)+1)=((a.length+1:Nat):Int):=by rw[zA (by omega) (by omega)]; omega
  have Xi:qC (0:Int) ((a.length:Nat):Int) s=a:=by rw[he]; exact JC a _
  have hcr:qC ((a.length+1:Nat):Int) ((s.length:Nat):Int) s=b:=by rw[he]; exact Xu a 58 b
  have hnp:zI (((xW.length:Nat):Int)-1)=(xW.length:Int)-1:=zA (by omega) (by omega)
  have hS:(cB b).run=some ((qp b).1,((qp b).2.1,((qp b).2.2.1,(qp b).2.2.2))):=Bn b (by omega)
  have zal:US xW.length s=if zi (wd (xK 32 [] a) 0) [99,104,101,99,107]=true then HX xW.length (xK 32 [] a) b else if zi (wd (xK 32 [] a) 0) [114,117,108,101]=true then WD (xK 32 [] a) b else(2,qR):=by
   unfold US
   grind
  rw[zal]
  clear zal
  rw[z6 hf,z8 (decide_eq_false (by omega)),zb (xU.2 ⟨by omega,by omega,by omega⟩),Xi,z6 (mw a (by omega))]
  generalize xK 32 [] a=l
  have hG:(jj l (3:Int)).run=some ((pL l 3).1,(pL l 3).2):=Wn l 3 (by decide)
  have inner:∀ (f:(Bool×(Unit)×(List Switch)×(List Param)×(List qq)×(List Field)×(List qk)×(List Check))->T (Int×(Unit)×(List Switch)×(List Param)×(List qq)×(List Field)×(List qk)×(List Check))) (t:T (Bool×(Unit)×(List Switch)×(List Param)×(List qq)×(List Field)×(List qk)×(List Check))) (R:Option (Int×(Unit)×(List Switch)×(List Param)×(List qq)×(List Field)×(List qk)×(List Check))) (v:Bool),
    t.run=some (v,((),(xs,(jC,(xW,(kS,(kT,kR)))))))->(f (v,((),(xs,(jC,(xW,(kS,(kT,kR)))))))).run=R->(T.bind t f).run=R:=λf t R v g1 g2=>(z6 g1 f).trans g2
  have Xq:∀ (f:(Bool×(Unit)×(List Switch)×(List Param)×(List qq)×(List Field)×(List qk)×(List Check))->T (Int×(Unit)×(List Switch)×(List Param)×(List qq)×(List Field)×(List qk)×(List Check))) (t:T (Bool×(Unit)×(List Switch)×(List Param)×(List qq)×(List Field)×(List qk)×(List Check))) (v:Bool) (e:Int) (P:oo->Prop),
    t.run=some (v,((),(xs,(jC,(xW,(kS,(kT,kR)))))))->(∃ D,(f (v,((),(xs,(jC,(xW,(kS,(kT,kR)))))))).run=some (e,((),gZ xs jC xW kS kT kR D))/\P D)->∃ D,(T.bind t f).run=some (e,((),gZ xs jC xW kS kT kR D))/\P D:=λf t v e P g1 ⟨D,g2,g3⟩=>⟨D,(z6 g1 f).trans g2,g3⟩
  by_cases c1:l.length=2/\zi (wd l 0) [99,104,101,99,107]=true/\zT (wd l 1)=true/\xW.length≠0
  ·obtain⟨q1,q2,q3,q4⟩:=c1
   have e0:HX xW.length l b=((qp b).2.2.2,[],[],[],[],[],[(wd l 1,((xW.length:Int)-1,((qp b).2.2.1,((qp b).1,((qp b).2.1,())))))]):=by unfold HX; rw[if_pos ⟨q1,q3,q4⟩]
   have q2':zi (nth l (0:Int) (zn .str)) [99,104,101,99,107]=true:=q2
   rw[if_pos q2,e0]
   refine⟨_,inner _ _ _ true ?_ ?_,λ_=>rfl⟩
   ·rw[za (by rw[beq_iff_eq]; omega),zb (tg (by omega)),za q2',zb (ji (by omega)),z6 (qA _)]
    show(T.ite (zT (wd l 1)) _ _).run=_
    rw[za q3]
    simp only[zl,T.zg,zm,z7]
    rw[decide_eq_true (by omega)]
   ·dsimp only
    rw[zk,hw,zb (xU.2 ⟨by omega,by omega,by omega⟩),hcr,z6 hS]
    dsimp only
    rw[zb (ji (by omega)),k8 _ rfl rfl rfl (by omega),hnp,gx,gx]
    simp only[List.length_append,List.length_singleton,zl,T.zg,zm,z7]
    unfold gZ
    simp only[List.append_nil]
    rfl
  ·have e1:(if zi (wd l 0) [99,104,101,99,107]=true then HX xW.length l b else if zi (wd l 0) [114,117,108,101]=true then WD l b else(2,qR))=if zi (wd l 0) [114,117,108,101]=true then WD l b else(2,qR):=by
    by_cases k:zi (wd l 0) [99,104,101,99,107]=true
    ·rw[if_pos k,if_neg (bV k (by decide))]
     unfold HX
     grind
    ·rw[if_neg k]
   rw[e1]
   clear e1
   refine Xq _ _ false _ _ ?_ ?_
   ·by_cases k1:l.length=2
    ·rw[za (by rw[beq_iff_eq]; omega),zb (tg (by omega))]
     show(T.ite (zi (wd l 0) _) _ _).run=_
     cases k2:zi (wd l 0) [99,104,101,99,107]with
     | false =>
      rw[zf]
      simp only[zl,T.zg,zm,z7]
     | true =>
      rw[zk,zb (ji (by omega)),z6 (qA _)]
      show(T.ite (zT (wd l 1)) _ _).run=_
      cases k3:zT (wd l 1)with
      | false =>
       rw[zf]
       simp only[zl,T.zg,zm,z7]
      | true =>
       rw[zk]
       simp only[zl,T.zg,zm,z7]
       rw[decide_eq_false (λh=>c1 ⟨k1,k2,k3,by omega⟩)]
    ·rw[z8 (by rw[beq_eq_false_iff_ne]; omega)]
     simp only[zl,T.zg,zm,z7]
   ·dsimp only
    rw[zf,z6 hG]
    dsimp only
    by_cases c2:(pL l 3).2=true/\zi (wd l 0) [114,117,108,101]=true/\0<=rY (wd l 1)/\zT (wd l 2)=true
    ·obtain⟨q1,q2,q3,q4⟩:=c2
     have q0:=Cj q1
     have q2':zi (nth l (0:Int) (zn .str)) [114,117,108,101]=true:=q2
     have e0:WD l b=(if(qp b).2.2.2=0/\(qp b).2.2.1≠0 then(2,qR)else((qp b).2.2.2,[],[],[],[],[(wd l 2,(rY (wd l 1),((pL l 3).1,((qp b).1,((qp b).2.1,())))))],[])):=by unfold WD; rw[if_pos ⟨q0,q3,q4,q1⟩]
     have hI:(uS (nth l (1:Int) (zn .str))).run=some (rY (wd l 1)):=oa _
     rw[if_pos q2,e0,q1]
     refine Xq _ _ false _ _ ?_ ?_
     ·rw[z8 (by rfl),zb (tg (by omega)),z8 (by rw[q2']; rfl),zb (ji (by omega)),z6 hI,z8 (decide_eq_false (by omega)),zb (Zw (by omega)),z6 (qA _)]
      simp only[zl,T.zg,zm,z7]
      show some (!zT (wd l 2),_)=_
      rw[q4]; rfl
     ·dsimp only
      rw[zf,hw,zb (xU.2 ⟨by omega,by omega,by omega⟩),hcr,z6 hS]
      dsimp only
      by_cases k:(qp b).2.2.2=0/\(qp b).2.2.1≠0
      ·rw[if_pos k,za (by rw[k.1,bne_iff_ne.2 k.2]; rfl)]
       refine⟨qR,?_,λh=>absurd h (by decide)⟩
       simp only[zl,T.zg,zm,z7]
       rw[kU]
      ·rw[if_neg k,z8 (by
        by_cases k1:(qp b).2.2.2=0
        ·have:(qp b).2.2.1=0:=Classical.byContradiction λh=>k ⟨k1,h⟩
         rw[this]; exact Bool.and_false _
        ·rw[beq_eq_false_iff_ne.2 k1]; rfl)]
       refine⟨_,?_,λ_=>rfl⟩
       rw[zb (Zw (by omega)),zb (ji (by omega)),z6 hI,k8 _ rfl rfl rfl (by omega),gx,gx]
       simp only[List.length_append,List.length_singleton,zl,T.zg,zm,z7]
       unfold gZ
       simp only[List.append_nil]
       rfl
    ·have e0:(if zi (wd l 0) [114,117,108,101]=true then WD l b else(2,qR))=(2,qR):=by
      by_cases k:zi (wd l 0) [114,117,108,101]=true
      ·rw[if_pos k]
       unfold WD
       exact if_neg (λg=>c2 ⟨g.2.2.2,k,g.2.1,g.2.2.1⟩)
      ·rw[if_neg k]
     rw[e0]
     refine⟨qR,inner _ _ _ true ?_ ?_,λh=>absurd h (by decide)⟩
     ·cases k1:(pL l 3).2 with
      | false =>
       rw[za (by rfl)]
       simp only[zl,T.zg,zm,z7]
      | true =>
       have q0:=Cj k1
       have hI:(uS (nth l (1:Int) (zn .str))).run=some (rY (wd l 1)):=oa _
       rw[z8 (by rfl),zb (tg (by omega))]
       show(T.ite (!zi (wd l 0) _) _ _).run=_
       cases k2:zi (wd l 0) [114,117,108,101]with
       | false =>
        rw[za (by rfl)]
        simp only[zl,T.zg,zm,z7]
       | true =>
        rw[z8 (by rfl),zb (ji (by omega)),z6 hI]
        by_cases k3:0<=rY (wd l 1)
        ·rw[z8 (decide_eq_false (by omega)),zb (Zw (by omega)),z6 (qA _)]
         simp only[zl,T.zg,zm,z7]
         show some (!zT (wd l 2),_)=_
         cases k4:zT (wd l 2)with
         | false=>rfl
         | true=>exact absurd ⟨k1,k2,k3,k4⟩ c2
        ·rw[za (decide_eq_true (by omega))]
         simp only[zl,T.zg,zm,z7]
     ·dsimp only
      rw[zk]
      simp only[zl,T.zg,zm,z7]
      rw[kU]
 ·have e0:US xW.length s=(2,qR):=by
   unfold US
   rw[cE 58 s h58]
   rfl
  rw[if_neg h58]at hf
  rw[e0]
  refine⟨qR,?_,λh=>absurd h (by decide)⟩
  rw[z6 hf,za (by rfl),kU]
  simp only[zl,T.zg,zm,z7]
theorem Pp{l:List zd}(h:(pL l 2).2=true):2<=l.length:=by
 unfold pL at h
 grind
theorem Cy(s:zd)(hs:s.length<=80000)(w:List zd)(hw:w≠[])(hm:∀ x∈w,x.length<=1000000)(xs:List Switch)(jC:List Param)(xW:List qq)(kS:List Field)(kT:List qk)(kR:List Check)(h:SmS xs jC xW kS kT kR) :
  ∃ D,(iA s w () xs jC xW kS kT kR).run=some ((Kg xW.length s w).1,((),gZ xs jC xW kS kT kR D))/\((Kg xW.length s w).1=0->D=(Kg xW.length s w).2):=by
 obtain⟨h0,h1,h2,h3,h4,h5⟩:=id h
 have hl:0<w.length:=List.length_pos_iff.2 hw
 have Xq:∀ (f:(Bool×(Unit)×(List Switch)×(List Param)×(List qq)×(List Field)×(List qk)×(List Check))->T (Int×(Unit)×(List Switch)×(List Param)×(List qq)×(List Field)×(List qk)×(List Check))) (t:T (Bool×(Unit)×(List Switch)×(List Param)×(List qq)×(List Field)×(List qk)×(List Check))) (v:Bool) (e:Int) (P:oo->Prop),
   t.run=some (v,((),(xs,(jC,(xW,(kS,(kT,kR)))))))->(∃ D,(f (v,((),(xs,(jC,(xW,(kS,(kT,kR)))))))).run=some (e,((),gZ xs jC xW kS kT kR D))/\P D)->∃ D,(T.bind t f).run=some (e,((),gZ xs jC xW kS kT kR D))/\P D:=λf t v e P g1 ⟨D,g2,g3⟩=>⟨D,(z6 g1 f).trans g2,g3⟩
 unfold iA Kg
 rw[zb (tg hl)]
 show ∃ D,(T.ite (zi (wd w 0) _) _ (T.ite (zi (wd w 0) _) _ (T.ite (zi (wd w 0) _) _ (T.ite (zi (wd w 0) _) _ (T.ite (bif (zi (wd w 0) _)then(zi (wd w 0) _)else(zi (wd w 0) _)) _ _))))).run=_/\_
 by_cases k1:zi (wd w 0) [115,119,105,116,99,104]=true
 ·rw[if_pos k1,za k1]
  refine Xq _ _ (decide ((VD w).1=0)) _ _ ?_ ?_
  ·by_cases c:w.length=3
   ·rw[za (by rw[beq_iff_eq]; omega),zb (ji (by omega)),z6 (qA _)]
    unfold VD
    show(T.ite (zT (wd w 1)) _ _).run=_
    cases q1:zT (wd w 1)with
    | false =>
     simp
    | true =>
     rw[zk,zb (Zw (by omega))]
     show(T.ite (zi (wd w 2) _) _ _).run=_
     cases q2:zi (wd w 2) [111,110]with
     | true =>
      rw[zk,if_pos ⟨c,rfl,.inl rfl⟩]
      simp
     | false =>
      rw[zf,zb (Zw (by omega))]
      simp only[zl,T.zg,zm,z7]
      show some (zi (wd w 2) _,_)=_
      cases q3:zi (wd w 2) [111,102,102]with
      | false=>simp
      | true=>grind
   ·rw[z8 (by rw[beq_eq_false_iff_ne]; omega)]
    unfold VD
    rw[if_neg (λh=>c h.1)]
    simp
  ·dsimp only
   by_cases e:(VD w).1=0
   ·rw[decide_eq_true e,zk]
    unfold VD at e ⊢
    split at e
    ·rename_i c
     rw[if_pos c]
     refine⟨_,?_,λ_=>rfl⟩
     rw[zb (ji (by omega)),zb (Zw (by omega)),k8 _ rfl rfl rfl (by omega)]
     simp only[List.length_append,List.length_singleton,zl,T.zg,zm,z7]
     unfold gZ
     simp only[List.append_nil]
     rfl
    ·exact absurd e (by decide)
   ·rw[decide_eq_false e,zf,Sa w e]
    refine⟨qR,?_,λh=>absurd h (by decide)⟩
    simp only[zl,T.zg,zm,z7]
    rw[kU]
 ·rw[if_neg k1,z8 (Bool.eq_false_iff.2 k1)]
  by_cases k2:zi (wd w 0) [112,97,114,97,109]=true
  ·rw[if_pos k2,za k2]
   refine Xq _ _ (decide (w.length=3)&&zT (wd w 1)) _ _ ?_ ?_
   ·by_cases c:w.length=3
    ·rw[za (by rw[beq_iff_eq]; omega),zb (ji (by omega)),z6 (qA _),decide_eq_true c,Bool.true_and]
     simp only[zl,T.zg,zm,z7]
     rfl
    ·rw[z8 (by rw[beq_eq_false_iff_ne]; omega),decide_eq_false c]
     simp only[zl,T.zg,zm,z7]
     rfl
   ·dsimp only
    by_cases c:w.length=3/\zT (wd w 1)=true
    ·obtain⟨r,e,g1,g2⟩:=KG (wd w 2) (by have:=hm _ (bh (l:=w) (i:=2) (d:=zn .str) (by omega) (by omega)); exact Nat.le_trans this (by omega))
     have g1:(ki (nth w 2 (zn .str))).run=some (r,e):=g1
     rw[decide_eq_true c.1,c.2,za (by rfl),zb (Zw (by omega)),z6 g1]
     dsimp only
     rw[zb (ji (by omega)),k8 _ rfl rfl rfl (by omega)]
     simp only[List.length_append,List.length_singleton,zl,T.zg,zm,z7]
     unfold Wx
     rw[if_pos c]
     cases hd:XZ (wd w 2)with
     | none =>
      rw[hd]at g2
      have g2:2<=e:=g2
      refine⟨([],[(wd w 1,(r,()))],[],[],[],[]),?_,λh=>absurd h (show ¬ (2:Int)=0 by decide)⟩
      rw[show Vi 2 e=2 from by unfold Vi; omega]
      unfold gZ
      simp only[List.append_nil]
      rfl
     | some q =>
      rw[hd]at g2
      obtain⟨g2,g3⟩:=g2
      refine⟨_,?_,λ_=>rfl⟩
      rw[g3,g2]
      unfold gZ
      simp only[List.append_nil]
      rfl
    ·have e2:Wx w=(2,qR):=by unfold Wx; rw[if_neg c]
     rw[e2,z8 (by
      by_cases c1:w.length=3
      ·rw[decide_eq_true c1,Bool.true_and]
       cases q:zT (wd w 1)with
       | false=>rfl
       | true=>exact absurd ⟨c1,q⟩ c
      ·rw[decide_eq_false c1]; rfl)]
     refine⟨qR,?_,λh=>absurd h (by decide)⟩
     simp only[zl,T.zg,zm,z7]
     rw[kU]
  ·rw[if_neg k2,z8 (Bool.eq_false_iff.2 k2)]
   by_cases k3:zi (wd w 0) [112,97,103,101]=true
   ·have hG:(jj w (2:Int)).run=some ((pL w 2).1,(pL w 2).2):=Wn w 2 (by decide)
    rw[if_pos k3,za k3,z6 hG]
    dsimp only
    refine Xq _ _ ((pL w 2).2&&zT (wd w 1)) _ _ ?_ ?_
    ·cases q:(pL w 2).2 with
     | false =>
      rw[zf]
      simp only[zl,T.zg,zm,z7]
      rfl
     | true =>
      have:=Pp q
      rw[zk,zb (ji (by omega)),z6 (qA _)]
      simp only[zl,T.zg,zm,z7]
      rfl
    ·dsimp only
     unfold VC
     by_cases c:(pL w 2).2=true/\zT (wd w 1)=true
     ·have q0:=Pp c.1
      rw[if_pos ⟨q0,c.2,c.1⟩,c.1,c.2,za (by rfl),zb (ji (by omega)),k8 _ rfl rfl rfl (by omega)]
      refine⟨_,?_,λ_=>rfl⟩
      simp only[List.length_append,List.length_singleton,zl,T.zg,zm,z7]
      unfold gZ
      simp only[List.append_nil]
      rfl
     ·rw[if_neg (λh=>c ⟨h.2.2,h.2.1⟩),z8 (by
       cases q:(pL w 2).2 with
       | false=>rfl
       | true =>
        cases q2:zT (wd w 1)with
        | false=>rfl
        | true=>exact absurd ⟨q,q2⟩ c)]
      refine⟨qR,?_,λh=>absurd h (by decide)⟩
      simp only[zl,T.zg,zm,z7]
      rw[kU]
   ·rw[if_neg k3,z8 (Bool.eq_false_iff.2 k3)]
    by_cases k4:zi (wd w 0) [102,105,101,108,100]=true
    ·have hnp:zI (((xW.length:Nat):Int)-1)=(xW.length:Int)-1:=zA (by omega) (by omega)
     obtain⟨F,b,g1,g2,g3⟩:=Kv w xW.length h2
     rw[if_pos k4,za k4,hnp,z6 g1]
     dsimp only
     cases b with
     | true =>
      rw[g3 rfl,zk,k8 _ rfl rfl rfl (by omega)]
      refine⟨_,?_,λ_=>rfl⟩
      simp only[List.length_append,List.length_singleton,zl,T.zg,zm,z7]
      unfold gZ
      simp only[List.append_nil]
     | false =>
      rw[Re _ _ (of_decide_eq_false g2.symm),zf]
      refine⟨qR,?_,λh=>absurd h (by decide)⟩
      simp only[zl,T.zg,zm,z7]
      rw[kU]
    ·rw[if_neg k4,z8 (Bool.eq_false_iff.2 k4)]
     by_cases k5:zi (wd w 0) [99,104,101,99,107]=true\/zi (wd w 0) [114,117,108,101]=true
     ·obtain⟨D,g1,g2⟩:=NZ s hs xs jC xW kS kT kR h
      rw[if_pos k5,za (by rcases k5 with k | k<;>rw[k]<;>cases zi (wd w 0) [99,104,101,99,107]<;>rfl)]
      refine⟨D,?_,g2⟩
      simp only[zl,T.zg,zm]
      rw[z6 g1]
      unfold gZ
      dsimp only
      simp only[zl,T.zg,zm,z7]
     ·rw[if_neg k5,z8 (by
       cases q1:zi (wd w 0) [99,104,101,99,107]with
       | true=>exact absurd (.inl q1) k5
       | false =>
        cases q2:zi (wd w 0) [114,117,108,101]with
        | true=>exact absurd (.inr q2) k5
        | false=>rfl)]
      refine⟨qR,?_,λh=>absurd h (by decide)⟩
      simp only[zl,T.zg,zm,z7]
      rw[kU]
end Go.AM.Lf
