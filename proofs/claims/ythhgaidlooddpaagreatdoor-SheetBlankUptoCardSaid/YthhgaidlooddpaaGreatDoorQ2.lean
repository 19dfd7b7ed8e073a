/-
  Plain laws of the lifted program, part 2.
-/
import Derived.Test.YthhgaidlooddpaaGreatDoorLf0
import Derived.Test.YthhgaidlooddpaaGreatDoorAmA
import Derived.Test.YthhgaidlooddpaaGreatDoorAmD
import Derived.Test.YthhgaidlooddpaaGreatDoorQ0
import Derived.Test.YthhgaidlooddpaaGreatDoorQ1
set_option linter.unusedVariables false
open Go.AM.T (jZ nf q8 qu vD z6 z7 z8 zL za zb zf zk zm)
namespace Go.AM.Lf
open PL
def gw(e:Expr):Prop:=allOk e/\bkE e<=300*vB e
def PR.lN(N:Nat):PR->Prop
 | .ok e r _=>gw e/\vB e+r.length<=N
 | _=>True
theorem MK(e:Expr):1<=vB e:=by cases e; unfold vB; omega
theorem jP:yH qm:=⟨gV,gV,by show(0:Nat)<=100; omega,by show(0:Nat)<=100; omega⟩
theorem sT(k:Int)(n:Rat)(s:zd)(hn:yH n)(hs:s.length<=24):gw (.mk k n s []):=by
 refine⟨⟨hn,trivial⟩,?_⟩
 have h3:=hn.2.2.1
 have h4:=hn.2.2.2
 show 1+((1+((List.length n.2.1+1)+((List.length n.2.2.1+1)+1)))+((List.length s+1)+((0+1)+1)))<=300*(1+0)
 omega
theorem Es(k:Int){a:Expr}(h:gw a):gw (lg k [a]):=by
 refine⟨⟨jP,h.1,trivial⟩,?_⟩
 show 1+((1+((0+1)+((0+1)+1)))+((0+1)+(((bkE a+0)+1)+1)))<=300*(1+(vB a+0))
 have:=h.2
 omega
theorem EH(k:Int){a b:Expr}(h:gw a)(h2:gw b):gw (lg k [a,b]):=by
 refine⟨⟨jP,h.1,h2.1,trivial⟩,?_⟩
 show 1+((1+((0+1)+((0+1)+1)))+((0+1)+(((bkE a+(bkE b+0))+1)+1)))<=300*(1+(vB a+(vB b+0)))
 have:=h.2
 have:=h2.2
 omega
theorem nd1(k:Int)(a:Expr):vB (lg k [a])=1+vB a:=rfl
theorem nd2(k:Int)(a b:Expr):vB (lg k [a,b])=1+(vB a+vB b):=rfl
theorem PR.su{N:Nat}{R:PR}{f:Expr->zd->Bool->PR}{M:Nat}(h:R.lN M)(hf:∀ e r l,gw e->vB e+r.length<=M->(f e r l).lN N):(R.bind f).lN N:=by
 cases R with
 | no=>trivial
 | er=>trivial
 | ok e r l=>exact hf e r l h.1 h.2
theorem z3N(t:zd)(ht:t.length<=400):yH (om t):=by
 unfold om
 split
 ·rename_i n d h
  have:=Wf (List.isPrefixOf [45] t) ht h
  exact⟨this.1,this.2.1,by have:=this.2.2.1; omega,by have:=this.2.2.2; omega⟩
 ·exact jP
theorem Xy{z:Rat}(hz:yH z)(t r:zd)(l:Bool)(N:Nat)(h:r.length+1<=N):(XO z t r l).lN N:=by
 unfold XO
 split
 ·exact⟨sT 1 z [] hz (by simp),by show 1+0+r.length<=N; omega⟩
 ·exact⟨sT 1 _ [] (z3N t (by omega)) (by simp),by show 1+0+r.length<=N; omega⟩
theorem Ob{z:Rat}(hz:yH z)(d:Nat)(c:UInt8)(r:zd)(l:Bool)(hc:wH c=true):(XW z d (c::r) l).lN (c::r).length:=by
 have hd:(c::r).dropWhile wH=r.dropWhile wH:=by rw[List.dropWhile_cons_of_pos hc]
 have hl:=(gN wH r).length_le
 unfold XW
 rw[hd]
 split
 ·exact Xy hz _ _ _ _ (by simp)
 ·rename_i c' q e
  rw[e]at hl
  split
  ·split
   ·trivial
   ·have:=(gN wH q).length_le
    simp at hl
    exact Xy hz _ _ _ _ (by grind)
  ·exact Xy hz _ _ _ _ (by grind)
theorem CC(p:UInt8->Bool):∀ (n:Nat) (r:zd),(uH p n r).1.length<=n
 | 0,_=>by unfold uH; simp
 | _+1,[]=>by unfold uH; simp
 | n+1,c::r=>by
  have:=CC p n r
  unfold uH
  grind
theorem z7v{c:UInt8}(h:JJ c=true):wb c=true:=by unfold wb; rw[h]; rfl
theorem NK(c:UInt8)(r:zd)(l:Bool)(hc:JJ c=true):(z2o (c::r) l).lN (c::r).length:=by
 have h1:=CC wb 24 (c::r)
 have h2:=congrArg List.length (oN wb 24 (c::r))
 have h3:(uH wb 24 (c::r)).1=c::(uH wb 23 r).1:=by
  show(if wb c=true then(c::(uH wb 23 r).1,(uH wb 23 r).2)else([],c::r)).1=_
  rw[if_pos (z7v hc)]
 refine⟨sT 2 qm _ jP h1,?_⟩
 show 1+0+(uH wb 24 (c::r)).2.length<=_
 grind
theorem Xw{m r q:zd}{c:UInt8}(h:jb m r=some (c,q)):q.length+1<=r.length:=by
 have:=(gL h).1.length_le
 grind
theorem Yz{K:Bool->zd->PR}(hK:∀ l q,(K l q).lN q.length)(m1 m2:UInt8)(k1 k2:Int):∀ (n:Nat) (e:Expr) (r:zd) (l:Bool) (N:Nat),gw e->vB e+r.length<=N->(fc K m1 m2 k1 k2 n e r l).lN N
 | 0,_,_,_,_,_,_=>trivial
 | n+1,e,r,l,N,he,hN=>by
  unfold fc
  split
  ·exact⟨he,by have:=Hp r; omega⟩
  ·rename_i c q ht
   have hq:=Xw ht
   refine PR.su (hK l q) λe2 q2 l2 h1 h2 => ?_
   refine Yz hK m1 m2 k1 k2 n _ q2 l2 N (EH _ he h1) ?_
   rw[nd2]
   omega
theorem Gz{K:Bool->zd->PR}(hK:∀ l q,(K l q).lN q.length)(m1 m2:UInt8)(k1 k2:Int)(n:Nat)(l:Bool)(r:zd):(rowP K m1 m2 k1 k2 n l r).lN r.length :=
 PR.su (hK l r) λe q l' h1 h2=>Yz hK m1 m2 k1 k2 n e q l' _ h1 h2
theorem Ol{z:Rat}(hz:yH z){F S:Nat->Bool->zd->PR}(hF:∀ d l q,(F d l q).lN q.length)(hS:∀ d l q,(S d l q).lN q.length)(d:Nat)(l:Bool)(r:zd):(Us z F S d l r).lN r.length:=by
 have hk:=Hp r
 unfold Us
 split
 ·trivial
 ·rename_i c q e
  rw[e]at hk
  simp at hk
  split
  ·split
   ·trivial
   ·refine PR.su (hF _ _ _) λe2 r2 l2 h1 h2=>⟨Es 7 h1,?_⟩
    rw[nd1]; omega
  ·split
   ·split
    ·trivial
    ·refine PR.su (hS _ _ _) λe2 r2 l2 h1 h2 => ?_
     split
     ·rename_i ht
      have:=Xw ht
      exact⟨h1,by omega⟩
     ·trivial
   ·split
    ·rename_i hc
     have:=Ob hz d c q l hc
     cases w:XW z d (c::q) l with
     | no=>trivial
     | er=>trivial
     | ok e2 r2 l2=>rw[w]at this; exact⟨this.1,by have:=this.2; simp at this; omega⟩
    ·split
     ·rename_i hc
      have:=NK c q l hc
      exact⟨this.1,by have:=this.2; simp at this; omega⟩
     ·trivial
theorem HT{z:Rat}(hz:yH z):∀ (n:Nat),(∀ d l r,(pF z n d l r).lN r.length)/\(∀ d l r,(pP z n d l r).lN r.length)/\(∀ d l r,(pS z n d l r).lN r.length)
 | 0=>⟨λ_ _ _=>by unfold pF; trivial,λ_ _ _=>by unfold pP; trivial,λ_ _ _=>by unfold pS; trivial⟩
 | n+1=>by
  obtain⟨h1,h2,h3⟩:=HT hz n
  refine⟨λd l r => ?_,λd l r => ?_,λd l r => ?_⟩
  ·unfold pF; exact Ol hz h1 h3 d l r
  ·unfold pP; exact Gz (h1 d) _ _ _ _ n l r
  ·unfold pS; exact Gz (h2 d) _ _ _ _ n l r
theorem PR.VK{R:PR}{f:Expr->zd->Bool->PR}{M:Nat}(h:R≠.no)(hg:R.lN M)(hf:∀ e r l,gw e->vB e+r.length<=M->f e r l≠.no):R.bind f≠.no:=by
 cases R with
 | no=>grind
 | er=>nofun
 | ok e r l=>exact hf e r l hg.1 hg.2
theorem Da{K:Bool->zd->PR}(hK:∀ l q,(K l q).lN q.length)(m1 m2:UInt8)(k1 k2:Int):∀ (n:Nat) (e:Expr) (r:zd) (l:Bool),(∀ l q,q.length<=r.length->K l q≠.no)->r.length+1<=n->fc K m1 m2 k1 k2 n e r l≠.no
 | 0,_,_,_,_,h=>by omega
 | n+1,e,r,l,hT,h=>by
  unfold fc
  split
  ·simp
  ·rename_i c q ht
   have hq:=Xw ht
   refine PR.VK (hT l q (by omega)) (hK l q) λe2 q2 l2 h1 h2 => ?_
   exact Da hK m1 m2 k1 k2 n _ q2 l2 (λl q3 h3=>hT l q3 (by omega)) (by omega)
theorem CG{K:Bool->zd->PR}(hK:∀ l q,(K l q).lN q.length)(m1 m2:UInt8)(k1 k2:Int)(n:Nat)(l:Bool)(r:zd)(hT:∀ l q,q.length<=r.length->K l q≠.no)(h:r.length<=n):rowP K m1 m2 k1 k2 n l r≠.no:=by
 refine PR.VK (hT l r (Nat.le_refl _)) (hK l r) λe q l' h1 h2 => ?_
 have:=MK e
 exact Da hK m1 m2 k1 k2 n e q l' (λl q3 h3=>hT l q3 (by omega)) (by omega)
theorem Sb(z:Rat)(d:Nat)(r:zd)(l:Bool):XW z d r l≠.no:=by
 have fin:∀ t q,XO z t q l≠.no:=λt q=>by unfold XO; split<;>(intro h; cases h)
 unfold XW
 grind
theorem SK{z:Rat}(hz:yH z):∀ (n:Nat),(∀ d l r,3*r.length+1<=n->pF z n d l r≠.no)/\(∀ d l r,3*r.length+2<=n->pP z n d l r≠.no)/\(∀ d l r,3*r.length+3<=n->pS z n d l r≠.no)
 | 0=>⟨λ_ _ _ h=>by omega,λ_ _ _ h=>by omega,λ_ _ _ h=>by omega⟩
 | n+1=>by
  obtain⟨h1,h2,h3⟩:=SK hz n
  obtain⟨g1,g2,g3⟩:=HT hz n
  refine⟨λd l r h => ?_,λd l r h => ?_,λd l r h => ?_⟩
  ·unfold pF
   have hk:=Hp r
   unfold Us
   split
   ·simp
   ·rename_i c q e
    rw[e]at hk
    simp only[List.length_cons]at hk
    split
    ·split
     ·simp
     ·exact PR.VK (h1 _ _ _ (by omega)) (g1 _ _ _) λ_ _ _ _ _=>by intro h; cases h
    ·split
     ·split
      ·simp
      ·refine PR.VK (h3 _ _ _ (by omega)) (g3 _ _ _) λ_ _ _ _ _ => ?_
       grind
     ·split
      ·exact Sb z d _ l
      ·split<;>(intro h; cases h)
  ·unfold pP
   exact CG (g1 d) _ _ _ _ n l r (λl q hq=>h1 d l q (by omega)) (by omega)
  ·unfold pS
   exact CG (g2 d) _ _ _ _ n l r (λl q hq=>h2 d l q (by omega)) (by omega)
theorem FE(s:zd)(hs:s.length<=1000000)(ST:KT)(N:Nat)(hS:∀ m,m<=N->∀ d l r,d<=31->r <:+ s->pS qm m d l r≠.no->(ST (qL s r d l)).run=encR s d (pS qm m d l r))
  (n:Nat) (hn:n<=N+1) (d:Nat) (l:Bool) (r:zd) (hd:d<=31) (h:r <:+ s) (kl:pF qm n d l r≠.no):(vt ST (qL s r d l)).run=encR s d (pF qm n d l r):=by
 obtain⟨y,hy⟩:∃ y,encR s d (pF qm n d l r)=some y:=by
  cases q:pF qm n d l r with
  | no=>grind
  | er=>exact⟨_,rfl⟩
  | ok=>exact⟨_,rfl⟩
 rw[hy]
 refine T.U1 (λn x y=>n<=N+1/\∃ d l r,d<=31/\r <:+ s/\x=qL s r d l/\pF qm n d l r≠.no/\encR s d (pF qm n d l r)=some y) (λx y => ?_) (λn x y hx g hg => ?_) (n:=n) ⟨hn,d,l,r,hd,h,rfl,kl,hy⟩
 ·nofun
 ·obtain⟨hn,d,l,r,hd,h,rfl,kl,hy⟩:=hx
  rw[<- hy]
  have hgF:∀ d l r,d<=31->r <:+ s->pF qm n d l r≠.no->(g (qL s r d l)).run=encR s d (pF qm n d l r):=by
   intro d l r hd h kl
   obtain⟨y,hy⟩:∃ y,encR s d (pF qm n d l r)=some y:=by
    cases q:pF qm n d l r with
    | no=>grind
    | er=>exact⟨_,rfl⟩
    | ok=>exact⟨_,rfl⟩
   grind
  exact Ca s hs (λy0=>g y0) ST (pF qm n) (pS qm n) hgF (hS n (by omega)) ((Ut qm s n).2.2) d l r hd h kl
theorem D9{t:T ((AM.Expr×zc)⊕(jQ×zc))}{o:Option ((AM.Expr×zc)⊕(jQ×zc))}(h:t.run=o)(ho:o≠none):(T.bind t<|Sum.elim (λ(r,p1)=>.ret (.inl (r,p1))) (λ(pv,p2)=>.ret (.inr (pv,p2))):T ((AM.Expr×zc)⊕(jQ×zc))).run=o:=by
 cases o with
 | none=>grind
 | some x=>rw[z6 h]; cases x<;>rfl
theorem BP{s:zd}{d:Nat}{R:PR}(h:R≠.no):encR s d R≠none:=by
 cases R with
 | no=>grind
 | er=>nofun
 | ok=>nofun
theorem Dd(s:zd)(hs:s.length<=1000000)(ST:KT)(N:Nat)(hS:∀ m,m<=N->∀ d l r,d<=31->r <:+ s->pS qm m d l r≠.no->(ST (qL s r d l)).run=encR s d (pS qm m d l r))
  (n:Nat) (hn:n<=N+1) (d:Nat) (l:Bool) (r:zd) (hd:d<=31) (h:r <:+ s) (kl:pP qm n d l r≠.no):(wM ST (qL s r d l)).run=encR s d (pP qm n d l r):=by
 cases n with
 | zero=>exact absurd (by rfl) kl
 | succ n =>
  refine D9 ?_ (BP kl)
  exact Dw s hs d (vt ST) (pF qm n d) (λl r h kl=>FE s hs ST N hS n (by omega) d l r hd h kl) ((Ut qm s n).1 d) 42 47 (by decide) (by decide) 5 6 n l r h kl
theorem z2W(s:zd)(hs:s.length<=1000000)(n:Nat)(d:Nat)(l:Bool)(r:zd)(hd:d<=31)(h:r <:+ s)(kl:pS qm n d l r≠.no):(k9 (qL s r d l)).run=encR s d (pS qm n d l r):=by
 have ik:∀ (n d:Nat) (l:Bool) (r:zd),pS qm n d l r≠.no->∃ y,encR s d (pS qm n d l r)=some y:=by
  intro n d l r kl
  cases q:pS qm n d l r with
  | no=>grind
  | er=>exact⟨_,rfl⟩
  | ok=>exact⟨_,rfl⟩
 obtain⟨y,hy⟩:=ik n d l r kl
 rw[hy]
 refine T.U1 (λn x y=>∃ m,m<=n/\∃ d l r,d<=31/\r <:+ s/\x=qL s r d l/\pS qm m d l r≠.no/\encR s d (pS qm m d l r)=some y) (λx y => ?_) (λn x y hx g hg => ?_) (n:=n) ⟨n,Nat.le_refl _,d,l,r,hd,h,rfl,kl,hy⟩
 ·rintro⟨m,hm,d,l,r,_,_,_,h,_⟩
  have:m=0:=by omega
  subst this
  exact h (by rfl)
 ·obtain⟨m,hm,d,l,r,hd,h,rfl,kl,hy⟩:=hx
  rw[<- hy]
  cases m with
  | zero=>exact absurd (by rfl) kl
  | succ m =>
   have hg2:∀ k,k<=m->∀ d l r,d<=31->r <:+ s->pS qm k d l r≠.no->(g (qL s r d l)).run=encR s d (pS qm k d l r):=by
    grind
   refine D9 ?_ (BP kl)
   exact Dw s hs d (wM λy0=>g y0) (pP qm m d) (λl r h kl=>Dd s hs (λy0=>g y0) m hg2 m (by omega) d l r hd h kl) ((Ut qm s m).2.1 d) 43 45 (by decide) (by decide) 3 4 m l r h kl
def pc(s:zd):PR->Expr×Int×Int×Bool
 | .no=>(zE,0,0,false)
 | .er k b _ _ l=>(zE,((xx s b:Nat):Int),k,l)
 | .ok e [] l=>(e,0,0,l)
 | .ok _ (c::r) l=>(zE,((xx s (c::r):Nat):Int),2,l)
def iA(z:Rat)(s:zd):PR:=pS z (3*s.length+3) 0 false s
theorem Nf{z:Rat}(hz:yH z)(s:zd):iA z s≠.no:=(SK hz _).2.2 0 false s (Nat.le_refl _)
theorem DU(z:Rat)(s:zd):(iA z s).ov s:=(Ut z s _).2.2 0 false s (List.suffix_refl s)
theorem Xv{z:Rat}(hz:yH z)(s:zd):(iA z s).lN s.length:=(HT hz _).2.2 0 false s
theorem Fw(s:zd)(hs:s.length<=1000000):∃ p,(kf (s,((0:Int),((0:Int),(false,()))))).run=some ((pc s (iA qm s)).1,((pc s (iA qm s)).2.1,((pc s (iA qm s)).2.2.1,p)))/\p.2.2.2.1=(pc s (iA qm s)).2.2.2:=by
 have kl:=Nf jP s
 have hsf:=DU qm s
 have hr:=z2W s hs (3*s.length+3) 0 false s (by omega) (List.suffix_refl s) kl
 have e0:qL s s 0 false=(s,((0:Int),((0:Int),(false,())))):=by unfold qL; rw[G1]; rfl
 rw[e0]at hr
 have hr:(k9 (s,((0:Int),((0:Int),(false,()))))).run=encR s 0 (iA qm s):=hr
 unfold kf
 cases q:iA qm s with
 | no=>grind
 | er k b r d l =>
  rw[q]at hr
  refine⟨qL s r d l,?_,rfl⟩
  rw[z6 hr,Sum.elim_inr]
  rfl
 | ok e r l =>
  rw[q]at hr hsf
  cases r with
  | nil =>
   refine⟨qL s [] 0 l,?_,rfl⟩
   rw[z6 hr,Sum.elim_inl]
   dsimp only
   rw[uw,vC,mh,zf]
   rfl
  | cons c r =>
   refine⟨qL s (c::r) 0 l,?_,rfl⟩
   rw[z6 hr,Sum.elim_inl]
   dsimp only
   rw[uw,vC,dR hsf,zk]
   rfl
def E0(s:zd)(R:PR):Expr×Int×Int :=
 if(pc s R).2.2.1≠0 then(zE,((pc s R).2.1,(pc s R).2.2.1))
 else if(pc s R).2.2.2=true\/Er (pc s R).1=false then(zE,((0:Int),(3:Int)))
 else((pc s R).1,((0:Int),(0:Int)))
def qC(s:zd):Expr×Int×Int:=E0 s (iA qm s)
theorem Vz:gw zE:=sT 0 qm [] jP (by simp)
theorem Gb{s:zd}{R:PR}{N:Nat}(h:R.lN N)(h1:1<=N):gw (pc s R).1/\vB (pc s R).1<=N:=by
 have hz:gw zE/\vB zE<=N:=⟨Vz,h1⟩
 cases R with
 | no=>exact hz
 | er=>exact hz
 | ok e r l =>
  cases r with
  | nil=>exact⟨h.1,by have:=h.2; show vB e<=N; omega⟩
  | cons=>exact hz
theorem Yu(s:zd)(hs:s.length<=900000):(kD s).run=some (qC s):=by
 obtain⟨p,h1,h2⟩:=Fw s (by omega)
 have hg:=Gb (s:=s) (R:=iA qm s) (N:=s.length+1) (by
  have:=Xv jP s
  cases q:iA qm s with
  | no=>trivial
  | er=>trivial
  | ok e r l=>rw[q]at this; exact⟨this.1,by have:=this.2; omega⟩) (by omega)
 unfold qC E0
 generalize pc s (iA qm s)=w at h1 h2 hg ⊢
 obtain⟨e,at_,x,l⟩:=w
 dsimp only at h1 h2 hg ⊢
 unfold kD
 rw[z6 h1]
 by_cases c:x≠0
 ·rw[za (by grind),z7,if_pos c]
 ·rw[z8 (by grind),if_neg c,h2]
  have hI:=Nu e hg.1.1 (by omega)
  rw[z6 (a:=(decide (l=true\/Er e=false),(zE,(p,e))))]
  ·dsimp only
   by_cases c2:l=true\/Er e=false
   ·rw[za (decide_eq_true c2),z7,if_pos c2]
   ·rw[z8 (decide_eq_false c2),z7,if_neg c2]
  ·cases l with
   | true=>rfl
   | false =>
    rw[zf,z6 hI,z7]
    simp
inductive QR where
 | no
 | er (k:Int) (bad:zd) (x:Expr) (r:zd) (d:Nat) (l:Bool)
 | ok (e:Expr) (r:zd) (l:Bool)
def Hn(t r:zd)(l:Bool):QR:=if 400<t.length then .ok (.mk 1 (toR 0) [] []) r true else .ok (.mk 1 (om t) [] []) r l
def Cu(d:Nat)(r:zd)(l:Bool):QR:=match r.dropWhile wH with
 | []=>Hn (r.takeWhile wH) [] l
 | c::q=>if c=46 then(if q.takeWhile wH=[]then .er 2 q zE q d l else Hn (r.takeWhile wH++(46::q.takeWhile wH)) (q.dropWhile wH) l)
  else Hn (r.takeWhile wH) (c::q) l
def stuck:zd->Bool
 | []=>false
 | c::_=>wb c
def D1(d:Nat)(r:zd)(l:Bool):QR:=if stuck (uH wb 24 r).2=true then .er 2 (uH wb 24 r).2 zE (uH wb 24 r).2 d l else .ok (.mk 2 qm (uH wb 24 r).1 []) (uH wb 24 r).2 l
def tU(K:Bool->zd->QR)(m1 m2:UInt8)(k1 k2:Int):Nat->Expr->zd->Bool->QR
 | 0,_,_,_=>.no
 | n+1,e,r,l=>match jb [m1,m2] r with
  | none=>.ok e (hO r) l
  | some (c,q)=>match K l q with
   | .no=>.no
   | .er k b x q2 d2 l2=>.er k b (lg (if c=m1 then k1 else k2) [e,x]) (hO q2) d2 l2
   | .ok e2 q2 l2=>tU K m1 m2 k1 k2 n (lg (if c=m1 then k1 else k2) [e,e2]) q2 l2
def HA(K:Bool->zd->QR)(m1 m2:UInt8)(k1 k2:Int)(n:Nat)(l:Bool)(r:zd):QR:=match K l r with
 | .no=>.no
 | .er k b x q d l2=>.er k b x (hO q) d l2
 | .ok e q l2=>tU K m1 m2 k1 k2 n e q l2
def D3(F S:Nat->Bool->zd->QR)(d:Nat)(l:Bool)(s:zd):QR:=match hO s with
 | []=>.er 2 [] zE [] d l
 | c::r =>
  if c=45 then(if 31<=d then .er 4 (c::r) zE (c::r) d l else match F (d+1) l r with
   | .no=>.no
   | .er k b x q d2 l2=>.er k b (lg 7 [x]) q (d2-1) l2
   | .ok e q l2=>.ok (lg 7 [e]) q l2)
  else if c=40 then(if 31<=d then .er 4 (c::r) zE (c::r) d l else match S (d+1) l r with
   | .no=>.no
   | .er k b _ q d2 l2=>.er k b zE (hO q) d2 l2
   | .ok e q l2=>match jb [41] q with
    | some (_,q')=>.ok e q' l2
    | none=>.er 2 (hO q) zE (hO q) (d+1) l2)
  else if wH c=true then Cu d (c::r) l
  else if JJ c=true then D1 d (c::r) l
  else .er 2 (c::r) zE (c::r) d l
mutual
def qF:Nat->Nat->Bool->zd->QR
 | 0,_,_,_=>.no
 | n+1,d,l,s=>D3 (qF n) (qS n) d l s
def qP:Nat->Nat->Bool->zd->QR
 | 0,_,_,_=>.no
 | n+1,d,l,s=>HA (qF n d) 42 47 5 6 n l s
def qS:Nat->Nat->Bool->zd->QR
 | 0,_,_,_=>.no
 | n+1,d,l,s=>HA (qP n d) 43 45 3 4 n l s
end
def QR.rel(l0:Bool):QR->PR->Prop
 | _,.no=>True
 | .no,_=>False
 | .er k b _ _ _ _,.er k' b' _ _ _=>k=k'/\b=b'
 | .er k b _ _ _ _,.ok _ r' _=>k=2/\b=r'/\stuck r'=true
 | .ok e r l,.ok e' r' l'=>r=r'/\l=l'/\(l=false->l0=false/\e=e')
 | .ok _ _ _,.er _ _ _ _ _=>False
theorem GY(l:Bool)(Q:QR):Q.rel l .no:=by cases Q<;>trivial
theorem Jv{m r:zd}(h:stuck r=true)(hm:m.all (λc => !wb c)=true):jb m r=none/\hO r=r:=by
 cases r with
 | nil=>cases h
 | cons c q =>
  have h:wb c=true:=h
  have h32:c≠32:=by rintro rfl; revert h; decide
  have e:hO (c::q)=c::q:=by unfold hO; rw[if_neg h32]
  unfold jb
  grind
theorem Bo(t r:zd)(l:Bool):(Hn t r l).rel l (XO qm t r l):=by
 unfold Hn XO
 split
 ·exact⟨rfl,rfl,λh=>by cases h⟩
 ·exact⟨rfl,rfl,λh=>⟨h,rfl⟩⟩
theorem z29(d:Nat)(r:zd)(l:Bool):(Cu d r l).rel l (XW qm d r l):=by
 unfold Cu XW
 cases r.dropWhile wH with
 | nil=>exact Bo _ _ _
 | cons c q =>
  dsimp only
  by_cases hc:c=46
  ·rw[if_pos hc,if_pos hc]
   by_cases hq:q.takeWhile wH=[]
   ·rw[if_pos hq,if_pos hq]; exact⟨rfl,rfl⟩
   ·rw[if_neg hq,if_neg hq]; exact Bo _ _ _
  ·rw[if_neg hc,if_neg hc]; exact Bo _ _ _
theorem z3i(d:Nat)(r:zd)(l:Bool):(D1 d r l).rel l (z2o r l):=by
 unfold D1 z2o
 split
 ·rename_i h; exact⟨rfl,rfl,h⟩
 ·exact⟨rfl,rfl,λh=>⟨h,rfl⟩⟩
theorem Ke(K:Bool->zd->PR)(m1 m2:UInt8)(k1 k2:Int)(hm:[m1,m2].all (λc => !wb c)=true)(n:Nat)(e:Expr){r:zd}(l:Bool)(h:stuck r=true):fc K m1 m2 k1 k2 n e r l=.no\/fc K m1 m2 k1 k2 n e r l=.ok e r l:=by
 cases n with
 | zero=>exact .inl rfl
 | succ n =>
  obtain⟨h1,h2⟩:=Jv h hm
  right
  unfold fc
  rw[h1,h2]
theorem Ec{KQ:Bool->zd->QR}{K:Bool->zd->PR}(hK:∀ l q,(KQ l q).rel l (K l q))(m1 m2:UInt8)(k1 k2:Int)(hm:[m1,m2].all (λc => !wb c)=true)(l0:Bool) :
  ∀ (n:Nat) (e e':Expr) (r:zd) (l:Bool),(l=false->l0=false/\e=e')->(tU KQ m1 m2 k1 k2 n e r l).rel l0 (fc K m1 m2 k1 k2 n e' r l)
 | 0,_,_,_,_,_=>trivial
 | n+1,e,e',r,l,h=>by
  unfold tU fc
  cases q:jb [m1,m2] r with
  | none=>exact⟨rfl,rfl,h⟩
  | some x =>
   obtain⟨c,q'⟩:=x
   dsimp only
   have hr:=hK l q'
   cases zP:K l q' with
   | no=>exact GY _ _
   | er k' b' r' d' l' =>
    rw[zP]at hr
    cases zQ:KQ l q' with
    | no=>rw[zQ]at hr; exact hr.elim
    | er k b x q2 d2 l2=>rw[zQ]at hr; exact hr
    | ok=>rw[zQ]at hr; exact hr.elim
   | ok e2 q2 l2 =>
    rw[zP]at hr
    show QR.rel l0 _ (fc K m1 m2 k1 k2 n (lg (if c=m1 then k1 else k2) [e',e2]) q2 l2)
    cases zQ:KQ l q' with
    | no=>rw[zQ]at hr; exact hr.elim
    | er k b x q3 d3 l3 =>
     rw[zQ]at hr
     obtain⟨rfl,rfl,hs⟩:=hr
     rcases Ke K m1 m2 k1 k2 hm n (lg (if c=m1 then k1 else k2) [e',e2]) l2 hs with w | w<;>rw[w]
     ·trivial
     ·exact⟨rfl,rfl,hs⟩
    | ok e3 q3 l3 =>
     rw[zQ]at hr
     obtain⟨rfl,rfl,hh⟩:=hr
     refine Ec hK m1 m2 k1 k2 hm l0 n _ _ q3 l3 λh3 => ?_
     grind
theorem N5{KQ:Bool->zd->QR}{K:Bool->zd->PR}(hK:∀ l q,(KQ l q).rel l (K l q))(m1 m2:UInt8)(k1 k2:Int)(hm:[m1,m2].all (λc => !wb c)=true)(n:Nat)(l:Bool)(r:zd):(HA KQ m1 m2 k1 k2 n l r).rel l (rowP K m1 m2 k1 k2 n l r):=by
 have hr:=hK l r
 unfold HA rowP
 cases zP:K l r with
 | no=>exact GY _ _
 | er k' b' r' d' l' =>
  rw[zP]at hr
  cases zQ:KQ l r with
  | no=>rw[zQ]at hr; exact hr.elim
  | er k b x q2 d2 l2=>rw[zQ]at hr; exact hr
  | ok=>rw[zQ]at hr; exact hr.elim
 | ok e2 q2 l2 =>
  rw[zP]at hr
  show QR.rel l _ (fc K m1 m2 k1 k2 n e2 q2 l2)
  cases zQ:KQ l r with
  | no=>rw[zQ]at hr; exact hr.elim
  | er k b x q3 d3 l3 =>
   rw[zQ]at hr
   obtain⟨rfl,rfl,hs⟩:=hr
   rcases Ke K m1 m2 k1 k2 hm n e2 l2 hs with w | w<;>rw[w]
   ·trivial
   ·exact⟨rfl,rfl,hs⟩
  | ok e3 q3 l3 =>
   rw[zQ]at hr
   obtain⟨rfl,rfl,hh⟩:=hr
   exact Ec hK m1 m2 k1 k2 hm l n _ _ q3 l3 hh
theorem z3g{FQ SQ:Nat->Bool->zd->QR}{F S:Nat->Bool->zd->PR}(hF:∀ d l q,(FQ d l q).rel l (F d l q))(hS:∀ d l q,(SQ d l q).rel l (S d l q))(d:Nat)(l:Bool)(r:zd):(D3 FQ SQ d l r).rel l (Us qm F S d l r):=by
 unfold D3 Us
 cases e:hO r with
 | nil=>exact⟨rfl,rfl⟩
 | cons c q =>
  dsimp only
  by_cases c45:c=45
  ·rw[if_pos c45,if_pos c45]
   by_cases c31:31<=d
   ·rw[if_pos c31,if_pos c31]; exact⟨rfl,rfl⟩
   ·rw[if_neg c31,if_neg c31]
    have hr:=hF (d+1) l q
    cases zP:F (d+1) l q with
    | no=>exact GY _ _
    | er k' b' r' d' l' =>
     rw[zP]at hr
     cases zQ:FQ (d+1) l q with
     | no=>rw[zQ]at hr; exact hr.elim
     | er k b x q2 d2 l2=>rw[zQ]at hr; exact hr
     | ok=>rw[zQ]at hr; exact hr.elim
    | ok e2 q2 l2 =>
     rw[zP]at hr
     cases zQ:FQ (d+1) l q with
     | no=>rw[zQ]at hr; exact hr.elim
     | er k b x q3 d3 l3=>rw[zQ]at hr; exact hr
     | ok e3 q3 l3 =>
      rw[zQ]at hr
      obtain⟨h1,h2,h3⟩:=hr
      exact⟨h1,h2,λh=>by grind⟩
  ·rw[if_neg c45,if_neg c45]
   by_cases c40:c=40
   ·rw[if_pos c40,if_pos c40]
    by_cases c31:31<=d
    ·rw[if_pos c31,if_pos c31]; exact⟨rfl,rfl⟩
    ·rw[if_neg c31,if_neg c31]
     have hr:=hS (d+1) l q
     cases zP:S (d+1) l q with
     | no=>exact GY _ _
     | er k' b' r' d' l' =>
      rw[zP]at hr
      cases zQ:SQ (d+1) l q with
      | no=>rw[zQ]at hr; exact hr.elim
      | er k b x q2 d2 l2=>rw[zQ]at hr; exact hr
      | ok=>rw[zQ]at hr; exact hr.elim
     | ok e2 q2 l2 =>
      rw[zP]at hr
      show QR.rel l _ (match jb [41] q2 with | some (_,q')=>.ok e2 q' l2 | none=>.er 2 (hO q2) (hO q2) (d+1) l2)
      cases zQ:SQ (d+1) l q with
      | no=>rw[zQ]at hr; exact hr.elim
      | er k b x q3 d3 l3 =>
       rw[zQ]at hr
       obtain⟨rfl,rfl,hs⟩:=hr
       obtain⟨h1,h2⟩:=Jv hs (m:=[41]) (by decide)
       rw[h1,h2]
       exact⟨rfl,rfl⟩
      | ok e3 q3 l3 =>
       rw[zQ]at hr
       obtain⟨rfl,rfl,h3⟩:=hr
       dsimp only
       cases jb [41] q3 with
       | none=>exact⟨rfl,rfl⟩
       | some x=>exact⟨rfl,rfl,h3⟩
   ·rw[if_neg c40,if_neg c40]
    by_cases hD:wH c=true
    ·rw[if_pos hD,if_pos hD]; exact z29 _ _ _
    ·rw[if_neg hD,if_neg hD]
     by_cases hL:JJ c=true
     ·rw[if_pos hL,if_pos hL]; exact z3i _ _ _
     ·rw[if_neg hL,if_neg hL]; exact⟨rfl,rfl⟩
theorem z0I:∀ (n:Nat),(∀ d l r,(qF n d l r).rel l (pF qm n d l r))/\(∀ d l r,(qP n d l r).rel l (pP qm n d l r))/\(∀ d l r,(qS n d l r).rel l (pS qm n d l r))
 | 0=>⟨λ_ _ _=>by unfold qF pF; trivial,λ_ _ _=>by unfold qP pP; trivial,λ_ _ _=>by unfold qS pS; trivial⟩
 | n+1=>by
  obtain⟨h1,h2,h3⟩:=z0I n
  refine⟨λd l r => ?_,λd l r => ?_,λd l r => ?_⟩
  ·unfold qF pF; exact z3g h1 h3 d l r
  ·unfold qP pP; exact N5 (h1 d) 42 47 5 6 (by decide) n l r
  ·unfold qS pS; exact N5 (h2 d) 43 45 3 4 (by decide) n l r
def xZ(s r:zd)(e b:Int)(d:Nat)(l:Bool):zj:=(s,((xx s r:Nat):Int),e,b,(d:Int),l,())
theorem kc(s r:zd)(e b:Int)(d:Nat)(l:Bool):(xZ s r e b d l).1=s:=rfl
theorem ux(s r:zd)(e b:Int)(d:Nat)(l:Bool):(xZ s r e b d l).2.1=((xx s r:Nat):Int):=rfl
theorem Wi(s r:zd)(e b:Int)(d:Nat)(l:Bool):(xZ s r e b d l).2.2.1=e:=rfl
theorem z9i(s r:zd)(e b:Int)(d:Nat)(l:Bool):(xZ s r e b d l).2.2.2.1=b:=rfl
theorem z4J(s r:zd)(e b:Int)(d:Nat)(l:Bool):(xZ s r e b d l).2.2.2.2.1=(d:Int):=rfl
theorem z9p(s r:zd)(e b:Int)(d:Nat)(l:Bool):(xZ s r e b d l).2.2.2.2.2.1=l:=rfl
theorem fK{s r:zd}{c:UInt8}(e b:Int)(d:Nat)(l:Bool)(h:(c::r) <:+ s)(hs:s.length<=1000000) :
  (((xZ s (c::r) e b d l).1,((zI ((xZ s (c::r) e b d l).2.1+(1:Int))),((xZ s (c::r) e b d l).2.2.1,((xZ s (c::r) e b d l).2.2.2.1,((xZ s (c::r) e b d l).2.2.2.2.1,((xZ s (c::r) e b d l).2.2.2.2.2.1,())))))):zj)=xZ s r e b d l:=by
 have:=uB h
 rw[ux,zA (by omega) (by omega),show((xx s (c::r):Nat):Int)+1=((xx s r:Nat):Int) by omega]
 rfl
theorem Qu(s:zd)(hs:s.length<=1000000)(e b:Int)(d:Nat)(l:Bool):∀ (r:zd),r <:+ s->(gY (xZ s r e b d l)).run=some (xZ s (hO r) e b d l)
 | [],_=>by
  refine zL ?_
  unfold wa
  dsimp only
  rw[ux,kc,mh,zb (λh=>by cases h),z8 (by rfl),z7]
  rfl
 | c::r,h=>by
  have st:(wa (xZ s (c::r) e b d l)).run=some (if c=32 then .inl (xZ s r e b d l)else .inr (xZ s (c::r) e b d l)):=by
   unfold wa
   dsimp only
   rw[fK e b d l h hs,ux,kc,dR h,zb (λ_=>js h),Bool.true_and,uc h,show((c.toNat:Int)==32)=decide (c=32)from tn c 32]
   by_cases hc:c=32
   ·rw[za (by grind),z7,if_pos hc]
   ·rw[z8 (by grind),z7,if_neg hc]
  unfold hO
  by_cases hc:c=32
  ·rw[if_pos hc]at st ⊢
   exact(qu st).trans (Qu s hs e b d l r (wo h))
  ·rw[if_neg hc]at st ⊢
   exact zL st
theorem l9(s:zd)(hs:s.length<=1000000)(e b:Int)(d:Nat)(l:Bool)(r:zd)(h:r <:+ s):(we (xZ s r e b d l)).run=some (xZ s (hO r) e b d l):=by
 unfold we
 rw[z6 (Qu s hs e b d l r h),z7]
def hd5:zd->Int
 | []=>0
 | c::_=>(c.toNat:Int)
theorem Wd(s:zd)(hs:s.length<=1000000)(e b:Int)(d:Nat)(l:Bool)(r:zd)(h:r <:+ s):(w7 (xZ s r e b d l)).run=some (if e=0 then hd5 (hO r)else 0,xZ s (hO r) e b d l):=by
 have hk:=(vE r).trans h
 unfold w7
 rw[z6 (l9 s hs e b d l r h),Wi,ux,kc]
 by_cases he:e=0
 ·rw[if_pos he]
  have e1:(e != (0:Int))=false:=by simpa using he
  rw[e1,Bool.false_or]
  cases q:hO r with
  | nil=>rw[za (decide_eq_true (by rw[Du]; omega)),z7]; rfl
  | cons c r' =>
   rw[q]at hk
   have:=uB hk
   rw[z8 (decide_eq_false (by omega)),zb (js hk),z7,uc hk]
   rfl
 ·rw[if_neg he,za (by grind),z7]
theorem cw(k:Int)(s r:zd)(e b:Int)(d:Nat)(l:Bool):(xe k (xZ s r e b d l)).run=some (zE,if e=0 then xZ s r k ((xx s r:Nat):Int) d l else xZ s r e b d l):=by
 unfold xe
 rw[Wi]
 by_cases he:e=0
 ·rw[if_pos he,za (by grind),z7]; rfl
 ·rw[if_neg he,z8 (by grind),z7]
theorem C2(s:zd)(hs:s.length<=1000000){c:UInt8}{r:zd}(h:(c::r) <:+ s)(d:Nat)(hd:d<=31)(l:Bool):(vz (xZ s (c::r) 0 0 d l)).run=some (if 31<=d then(false,xZ s (c::r) 4 ((xx s (c::r):Nat):Int) d l)else(true,xZ s r 0 0 (d+1) l)):=by
 have hp:=uB h
 unfold vz
 rw[z4J,zA (x:=(d:Int)+1) (by omega) (by omega)]
 by_cases c1:31<=d
 ·rw[if_pos c1,za (decide_eq_true (by omega)),z6 (cw _ _ _ _ _ _ _),if_pos rfl,z7]
 ·rw[if_neg c1,z8 (decide_eq_false (by omega)),z7,ux,zA (by omega) (by omega),show((xx s (c::r):Nat):Int)+1=((xx s r:Nat):Int) by omega]
  rfl
theorem YA(s:zd)(hs:s.length<=1000000)(e b:Int)(d:Nat)(l:Bool)(r:zd)(h:r <:+ s):(jo 41 (xZ s r e b d l)).run=some (if e=0 then(match jb [41] r with | some (_,q)=>(true,xZ s q e b d l) | none=>(false,xZ s (hO r) e b d l))else(false,xZ s (hO r) e b d l)):=by
 have hk:=(vE r).trans h
 unfold jo jb
 rw[z6 (l9 s hs e b d l r h),Wi,ux,kc]
 by_cases he:e=0
 ·have e1:(e==(0:Int))=true:=by simpa using he
  rw[if_pos he,e1,Bool.true_and]
  cases q:hO r with
  | nil=>rw[mh,zb (λ_ h=>by cases h),z8 (by rfl),z7]
  | cons c r' =>
   rw[q]at hk
   have n1:=fK e b d l hk hs
   rw[dR hk,zb (λ_ _=>js hk),Bool.true_and,uc hk,show((c.toNat:Int)==41)=decide (c=41)from tn c 41]
   dsimp only
   by_cases hc:c=41
   ·rw[za (by grind),z7,if_pos (by grind)]
    exact congrArg (λz=>some (true,z)) n1
   ·rw[z8 (by grind),z7,if_neg (by grind)]
 ·have e1:(e==(0:Int))=false:=by simpa using he
  rw[if_neg he,e1,zb (λh=>by cases h),z8 (by rfl),z7]
theorem CA(b:UInt8):(uX (b.toNat:Int)).run=some (wH b):=sE b
theorem Yf(s:zd)(hs:s.length<=1000000)(e b:Int)(d:Nat)(l:Bool):∀ (r:zd) (n:Nat),r <:+ s->n+r.length<=1000000 ->
  (jc ((n:Int),xZ s r e b d l)).run=some (((n+(r.takeWhile wH).length:Nat):Int),xZ s (r.dropWhile wH) e b d l)
 | [],n,_,_=>by
  refine zL ?_
  unfold wg
  rw[z6 (a:=(false,xZ s [] e b d l)) (by rw[ux,kc,mh,zf,z7]),zf,z7]
  rfl
 | c::r,n,h,hn=>by
  have st:(wg ((n:Int),xZ s (c::r) e b d l)).run=some (if wH c=true then .inl (((n+1:Nat):Int),xZ s r e b d l)else .inr ((n:Int),xZ s (c::r) e b d l)):=by
   unfold wg
   rw[z6 (a:=(wH c,xZ s (c::r) e b d l)) (by rw[ux,kc,dR h,zk,zb (js h),uc h,z6 (CA c),z7])]
   cases wH c with
   | true =>
    rw[zk,z7,if_pos rfl,fK e b d l h hs,zA (by omega) (by omega)]
    rfl
   | false=>rfl
  cases hc:wH c with
  | true =>
   rw[hc,if_pos rfl]at st
   rw[List.takeWhile_cons_of_pos hc,List.dropWhile_cons_of_pos hc]
   simp at hn
   have:=(qu st).trans (Yf s hs e b d l r (n+1) (wo h) (by omega))
   rw[show n+1+(r.takeWhile wH).length=n+(c::r.takeWhile wH).length by grind]at this
   exact this
  | false =>
   rw[hc,if_neg (by simp)]at st
   rw[List.takeWhile_cons_of_neg (by grind),List.dropWhile_cons_of_neg (by grind)]
   exact zL st
theorem GB(s:zd)(hs:s.length<=1000000)(e b:Int)(d:Nat)(l:Bool)(r:zd)(h:r <:+ s):(vq (xZ s r e b d l)).run=some ((((r.takeWhile wH).length:Nat):Int),xZ s (r.dropWhile wH) e b d l):=by
 unfold vq
 have:=Yf s hs e b d l r 0 h (by grind)
 rw[Nat.zero_add]at this
 have this:(jc (0,xZ s r e b d l)).run=_:=this
 rw[z6 this,z7]
def nT(s:zd)(d:Nat):QR->Option (AM.Expr×zj)
 | .no=>none
 | .er k b x r d' l=>some (x,xZ s r k ((xx s b:Nat):Int) d' l)
 | .ok e r l=>some (e,xZ s r 0 0 d l)
theorem Tz{u:zd}(h1:qZ u=true)(h0:u≠[]):oy u≠none/\∀ q,qZ q=true->q≠[]->oy (u++46::q)≠none:=by
 have tp:∀ t:zd,ga (u++t) [45]=u++t:=by
  cases u with
  | nil=>grind
  | cons c u =>
   have hc:wH c=true:=by rw[uC,Bool.and_eq_true]at h1; exact h1.1
   have h45:(45:UInt8)≠c:=by rintro rfl; revert hc; decide
   unfold ga
   grind
 constructor
 ·unfold oy
  have:=tp []
  rw[List.append_nil]at this
  rw[this,Xi h1,if_neg h0]
  simp
 ·intro q hq MR
  unfold oy
  rw[tp,du h1 46 q (by decide),if_neg h0,if_neg (by grind),if_pos rfl]
  simp
theorem Ed(s:zd)(hs:s.length<=1000000)(d:Nat)(l:Bool)(r:zd)(h:r <:+ s)(hd:r.takeWhile wH≠[]):(uL (xZ s r 0 0 d l)).run=nT s d (Cu d r l):=by
 have BH:=gN wH r
 have hl:=h.length_le
 have hw:=GB s hs 0 0 d l r h
 have hdp:=Tz (Jb r) hd
 -- what is done with the text
 have fin:∀ (t q:zd),r=t++q->oy t≠none ->
   (.zx (wW (xZ s r 0 0 d l).2.1 (xZ s q 0 0 d l).2.1 (List.length (xZ s q 0 0 d l).1)) <|
   T.bind (kK (qz (xZ s r 0 0 d l).2.1 (xZ s q 0 0 d l).2.1 (xZ s q 0 0 d l).1)) λ(r7,e) =>
   T.bind (.ite (xZ s q 0 0 d l).2.2.2.2.2.1
      (.ret (((xZ s q 0 0 d l).1,((xZ s q 0 0 d l).2.1,((xZ s q 0 0 d l).2.2.1,((xZ s q 0 0 d l).2.2.2.1,((xZ s q 0 0 d l).2.2.2.2.1,(true,())))))),(zE,r7)))
      (.ret (((xZ s q 0 0 d l).1,((xZ s q 0 0 d l).2.1,((xZ s q 0 0 d l).2.2.1,((xZ s q 0 0 d l).2.2.2.1,((xZ s q 0 0 d l).2.2.2.2.1,((e != (0:Int)),())))))),(zE,r7))):T ((zj×AM.Expr×Rat))) λ(v4,v5,v6) =>
   .ret ((Expr.mk (1:Int) (v6.1,(v6.2.1,(v6.2.2.1,()))) ([]:zd) ([]:List AM.Expr)),v4):T (AM.Expr×zj)).run=nT s d (Hn t q l):=by
  intro t q e hp
  have hq:q <:+ r:=⟨t,e.symm⟩
  have h3:=GN hq h
  have h4:xx s q<=s.length:=by unfold xx; omega
  have hlen:t.length<=1000000:=by have:=congrArg List.length e; rw[List.length_append]at this; omega
  rw[ux,ux,kc,zb ⟨by omega,by omega,by omega⟩,Ua h e.symm]
  unfold Hn
  have hr3:=rQ t (by omega)
  by_cases c1:400<t.length
  ·rw[if_pos c1]at hr3 ⊢
   rw[z6 hr3]
   cases l<;>rfl
  ·rw[if_neg c1]at hr3 ⊢
   unfold om
   cases w:oy t with
   | none=>grind
   | some x =>
    rw[w]at hr3
    rw[z6 hr3]
    cases l<;>rfl
 unfold uL Cu
 rw[z6 hw]
 dsimp only
 cases e:r.dropWhile wH with
 | nil =>
  have er:r=r.takeWhile wH++[]:=by rw[<- e,gn]
  rw[z6 (a:=.inl (xZ s [] 0 0 d l,zE)) (by rw[ux,kc,mh,zb (λh=>by cases h),Bool.false_and,zf,z7]),Sum.elim_inl]
  grind
 | cons c q =>
  have er:r=r.takeWhile wH++c::q:=by rw[<- e,gn]
  rw[e]at BH
  have Kw:=BH.trans h
  have hq:=wo Kw
  dsimp only
  by_cases hc:c=46
  ·subst hc
   rw[if_pos rfl]
   have sS:=GB s hs 0 0 d l q hq
   have cond:((decide (((xx s (46::q):Nat):Int)<(s.length:Int)))&&((zt s ((xx s (46::q):Nat):Int))==(46:Int)))=true:=by
    rw[dR Kw,Bool.true_and,uc Kw]; rfl
   by_cases MR:q.takeWhile wH=[]
   ·have hqq:q.dropWhile wH=q:=by have:=gn wH q; rw[MR]at this; simpa using this
    rw[if_pos MR,z6 (a:=.inr (xZ s q 2 ((xx s q:Nat):Int) d l,zE)),Sum.elim_inr]
    ·rfl
    ·rw[fK 0 0 d l Kw hs,ux,kc,zb (λ_=>js Kw),za cond,z6 sS,MR,za (by rfl),hqq,z6 (cw _ _ _ _ _ _ _),if_pos rfl,z7]
   ·rw[if_neg MR,z6 (a:=.inl (xZ s (q.dropWhile wH) 0 0 d l,zE)),Sum.elim_inl]
    ·refine fin _ _ ?_ (hdp.2 _ (Jb q) MR)
     rw[List.append_assoc,List.cons_append,gn]
     exact er
    ·have hl0:(q.takeWhile wH).length≠0:=λh=>MR (List.eq_nil_of_length_eq_zero h)
     rw[fK 0 0 d l Kw hs,ux,kc,zb (λ_=>js Kw),za cond,z6 sS,z8 (by simpa using MR),z7]
  ·rw[if_neg hc,z6 (a:=.inl (xZ s (c::q) 0 0 d l,zE)),Sum.elim_inl]
   ·exact fin _ _ er hdp.1
   ·rw[ux,kc,zb (λ_=>js Kw),z8 (by rw[dR Kw,Bool.true_and,uc Kw,show((c.toNat:Int)==46)=decide (c=46)from tn c 46]; simpa using hc),z7]
theorem F2(s:zd)(hs:s.length<=1000000)(d:Nat)(l:Bool)(f:Nat):∀ (n:Nat) (r:zd),r <:+ s->f<=xx s r->xx s r-f+n=24 ->
  (cr (f:Int) (xZ s r 0 0 d l,zE)).run=some (if stuck (uH wb n r).2=true then .inr (xZ s (uH wb n r).2 2 ((xx s (uH wb n r).2:Nat):Int) d l,zE)else .inl (xZ s (uH wb n r).2 0 0 d l,zE)):=by
 intro n r
 induction r generalizing n with
 | nil =>
  intro h hf he
  have:(uH wb n []).2=[]:=by cases n<;>rfl
  rw[this,if_neg (by simp[stuck])]
  refine zL ?_
  unfold xT
  dsimp only
  rw[z6 (a:=(false,(xZ s [] 0 0 d l,zE))) (by rw[ux,kc,mh,zf,z7]),zf,z7]
 | cons c r ih =>
  intro h hf he
  have Zy:=uB h
  have head:((T.ite (decide ((xZ s (c::r) 0 0 d l).2.1<(Nat.cast (List.length (xZ s (c::r) 0 0 d l).1):Int)))
     (.zx (q9 (xZ s (c::r) 0 0 d l).2.1 (List.length (xZ s (c::r) 0 0 d l).1)) <|
      T.bind (wB (zt (xZ s (c::r) 0 0 d l).1 (xZ s (c::r) 0 0 d l).2.1)) λr1 =>
      .ite r1
       (.ret (true,(xZ s (c::r) 0 0 d l,zE)))
       (.zx (q9 (xZ s (c::r) 0 0 d l).2.1 (List.length (xZ s (c::r) 0 0 d l).1)) <|
        T.bind (uX (zt (xZ s (c::r) 0 0 d l).1 (xZ s (c::r) 0 0 d l).2.1)) λr2 =>
        .ite r2
         (.ret (true,(xZ s (c::r) 0 0 d l,zE)))
         (.zx (q9 (xZ s (c::r) 0 0 d l).2.1 (List.length (xZ s (c::r) 0 0 d l).1)) <|
          .ret (((zt (xZ s (c::r) 0 0 d l).1 (xZ s (c::r) 0 0 d l).2.1)==(95:Int)),(xZ s (c::r) 0 0 d l,zE)))))
     (.ret (false,(xZ s (c::r) 0 0 d l,zE)))):T (Bool×zj×AM.Expr)).run=some (wb c,(xZ s (c::r) 0 0 d l,zE)):=by
   have h1:(wB (c.toNat:Int)).run=some (JJ c):=rfl
   have h2:(uX (c.toNat:Int)).run=some (decide (48<=(c.toNat:Int))&&decide ((c.toNat:Int)<=57)):=rfl
   rw[ux,kc,dR h,zk,zb (js h),uc h,z6 h1]
   unfold wb
   cases JJ c with
   | true=>rfl
   | false =>
    rw[zf,zb (js h),z6 h2]
    cases(decide (48<=(c.toNat:Int))&&decide ((c.toNat:Int)<=57))with
    | true=>rfl
    | false=>rw[zf,zb (js h),z7]; rfl
  cases hc:wb c with
  | false =>
   have:(uH wb n (c::r)).2=c::r:=by
    cases n with
    | zero=>rfl
    | succ n=>show(if wb c=true then _ else([],c::r)).2=c::r; rw[if_neg (by simp[hc])]
   rw[this,if_neg (by simp[stuck,hc])]
   refine zL ?_
   unfold xT
   dsimp only
   rw[z6 head,hc]
   rfl
  | true =>
   cases n with
   | zero =>
    have:(uH wb 0 (c::r)).2=c::r:=rfl
    rw[this,if_pos (show stuck (c::r)=true from hc)]
    refine zL ?_
    unfold xT
    dsimp only
    rw[z6 head,hc]
    dsimp only
    rw[zk,ux,zA (by omega) (by omega),show((xx s (c::r):Nat):Int)-(f:Int)=24 by omega,za (by rfl),z6 (cw _ _ _ _ _ _ _),if_pos rfl,z7]
   | succ n =>
    have e2:(uH wb (n+1) (c::r)).2=(uH wb n r).2:=by
     show(if wb c=true then(c::(uH wb n r).1,(uH wb n r).2)else([],c::r)).2=_; rw[if_pos hc]
    rw[e2]
    refine(qu ?_).trans (ih n (wo h) (by omega) (by omega))
    unfold xT
    dsimp only
    rw[z6 head,hc]
    dsimp only
    rw[zk,fK 0 0 d l h hs,ux,zA (by omega) (by omega),z8 (by rw[beq_eq_false_iff_ne]; omega),z7]
theorem Nv(s:zd)(hs:s.length<=1000000)(d:Nat)(l:Bool)(r:zd)(h:r <:+ s):(jn (xZ s r 0 0 d l)).run=nT s d (D1 d r l):=by
 have h3:=GN (QE wb 24 r) h
 have h4:xx s (uH wb 24 r).2<=s.length:=by unfold xx; omega
 unfold jn D1
 rw[ux,z6 (F2 s hs d l (xx s r) 24 r h (Nat.le_refl _) (by omega))]
 by_cases hc:stuck (uH wb 24 r).2=true
 ·rw[if_pos hc,if_pos hc,Sum.elim_inr]; rfl
 ·rw[if_neg hc,if_neg hc,Sum.elim_inl]
  dsimp only
  rw[ux,kc,zb ⟨by omega,by omega,by omega⟩,z7,Ua h (oN wb 24 r)]
  rfl
def QR.ov(s:zd)(d:Nat):QR->Prop
 | .no=>True
 | .er k b _ r d' _=>k≠0/\b <:+ s/\r <:+ s/\d<=d'/\d'<=1000
 | .ok _ r _=>r <:+ s
theorem Ue{s r t:zd}{l:Bool}{d:Nat}(h:r <:+ s):(Hn t r l).ov s d:=by unfold Hn; split<;>exact h
theorem z0E{s r:zd}{d:Nat}{l:Bool}(hd:d<=31)(h:r <:+ s):(Cu d r l).ov s d:=by
 have BH:=gN wH r
 unfold Cu
 cases e:r.dropWhile wH with
 | nil=>exact Ue List.nil_suffix
 | cons c q =>
  rw[e]at BH
  have hq:=(wo BH).trans h
  dsimp only
  split
  ·split
   ·exact⟨by decide,hq,hq,Nat.le_refl _,by omega⟩
   ·exact Ue ((gN wH q).trans hq)
  ·exact Ue (BH.trans h)
theorem Ye{s:zd}{d:Nat}{K:Bool->zd->QR}(hK:∀ l r,r <:+ s->(K l r).ov s d)(m1 m2:UInt8)(k1 k2:Int):∀ (n:Nat) (e:Expr) (r:zd) (l:Bool),r <:+ s->(tU K m1 m2 k1 k2 n e r l).ov s d
 | 0,_,_,_,_=>trivial
 | n+1,e,r,l,h=>by
  unfold tU
  cases ht:jb [m1,m2] r with
  | none=>exact(vE r).trans h
  | some x =>
   obtain⟨c,q⟩:=x
   have hq:=(wo (gL ht).1).trans h
   have:=hK l q hq
   dsimp only
   cases z:K l q with
   | no=>trivial
   | er k b x q2 d2 l2=>rw[z]at this; exact⟨this.1,this.2.1,(vE q2).trans this.2.2.1,this.2.2.2⟩
   | ok e2 q2 l2=>rw[z]at this; exact Ye hK m1 m2 k1 k2 n _ q2 l2 this
theorem BL{s:zd}{d:Nat}{K:Bool->zd->QR}(hK:∀ l r,r <:+ s->(K l r).ov s d)(m1 m2:UInt8)(k1 k2:Int)(n:Nat)(l:Bool)(r:zd)(h:r <:+ s):(HA K m1 m2 k1 k2 n l r).ov s d:=by
 unfold HA
 have:=hK l r h
 cases z:K l r with
 | no=>trivial
 | er k b x q2 d2 l2=>rw[z]at this; exact⟨this.1,this.2.1,(vE q2).trans this.2.2.1,this.2.2.2⟩
 | ok e2 q2 l2=>rw[z]at this; exact Ye hK m1 m2 k1 k2 n _ q2 l2 this
theorem PO{s:zd}{F S:Nat->Bool->zd->QR}(hF:∀ d l r,d<=31->r <:+ s->(F d l r).ov s d)(hS:∀ d l r,d<=31->r <:+ s->(S d l r).ov s d)(d:Nat)(l:Bool)(r:zd)(hd:d<=31)(h:r <:+ s):(D3 F S d l r).ov s d:=by
 have hk:=(vE r).trans h
 unfold D3
 cases e:hO r with
 | nil=>exact⟨by decide,List.nil_suffix,List.nil_suffix,Nat.le_refl _,by omega⟩
 | cons c q =>
  rw[e]at hk
  have hq:=wo hk
  dsimp only
  split
  ·split
   ·exact⟨by decide,hk,hk,Nat.le_refl _,by omega⟩
   ·have:=hF (d+1) l q (by omega) hq
    cases z:F (d+1) l q with
    | no=>trivial
    | er k b x q2 d2 l2=>rw[z]at this; exact⟨this.1,this.2.1,this.2.2.1,by have:=this.2.2.2.1; omega,by have:=this.2.2.2.2; omega⟩
    | ok e2 q2 l2=>rw[z]at this; exact this
  ·split
   ·split
    ·exact⟨by decide,hk,hk,Nat.le_refl _,by omega⟩
    ·have:=hS (d+1) l q (by omega) hq
     cases z:S (d+1) l q with
     | no=>trivial
     | er k b x q2 d2 l2=>rw[z]at this; exact⟨this.1,this.2.1,(vE q2).trans this.2.2.1,by have:=this.2.2.2.1; omega,this.2.2.2.2⟩
     | ok e2 q2 l2 =>
      rw[z]at this
      show QR.ov s d (match jb [41] q2 with | some (_,q')=>.ok e2 q' l2 | none=>.er 2 (hO q2) zE (hO q2) (d+1) l2)
      cases w:jb [41] q2 with
      | none=>exact⟨by decide,(vE q2).trans this,(vE q2).trans this,by omega,by omega⟩
      | some x=>exact(wo (gL w).1).trans this
   ·split
    ·exact z0E hd hk
    ·split
     ·unfold D1
      have:=(QE wb 24 (c::q)).trans hk
      split
      ·exact⟨by decide,this,this,Nat.le_refl _,by omega⟩
      ·exact this
     ·exact⟨by decide,hk,hk,Nat.le_refl _,by omega⟩
theorem XE(s:zd):∀ (n:Nat),(∀ d l r,d<=31->r <:+ s->(qF n d l r).ov s d)/\(∀ d l r,d<=31->r <:+ s->(qP n d l r).ov s d)/\(∀ d l r,d<=31->r <:+ s->(qS n d l r).ov s d)
 | 0=>⟨λ_ _ _ _ _=>by unfold qF; trivial,λ_ _ _ _ _=>by unfold qP; trivial,λ_ _ _ _ _=>by unfold qS; trivial⟩
 | n+1=>by
  obtain⟨h1,h2,h3⟩:=XE s n
  refine⟨λd l r hd h => ?_,λd l r hd h => ?_,λd l r hd h => ?_⟩
  ·unfold qF; exact PO h1 h3 d l r hd h
  ·unfold qP; exact BL (λl r h=>h1 d l r hd h) _ _ _ _ n l r h
  ·unfold qS; exact BL (λl r h=>h2 d l r hd h) _ _ _ _ n l r h
abbrev KR:=zj->T (AM.Expr×zj)
noncomputable def oJ (K:KR) (m1 m2:Int) (k1 k2:Int):(zj×AM.Expr×AM.Expr)->T ((zj×AM.Expr×AM.Expr)⊕((zj×AM.Expr×AM.Expr)))
 | (v,v1,v2) =>
  T.bind (w7 v) λ(r3,r4) =>
  .ite (r3==m1)
   (T.bind (K (r4.1,((zI (r4.2.1+(1:Int))),(r4.2.2.1,(r4.2.2.2.1,(r4.2.2.2.2.1,(r4.2.2.2.2.2.1,()))))))) λ(r5,r6) =>
    T.bind (fB k1 v2 r5) λr7 =>
    .ret (.inl (r6,(v1,r7))))
   (.ite (r3==m2)
     (T.bind (K (r4.1,((zI (r4.2.1+(1:Int))),(r4.2.2.1,(r4.2.2.2.1,(r4.2.2.2.2.1,(r4.2.2.2.2.2.1,()))))))) λ(r8,r9) =>
      T.bind (fB k2 v2 r8) λr10 =>
      .ret (.inl (r9,(v1,r10))))
     (.ret (.inr (r4,(v2,v2)))))
noncomputable def z4M (K:KR) (m1 m2:Int) (k1 k2:Int) (r:zj):T (AM.Expr×zj) :=
 T.bind (K r) λ(r1,r2) =>
 T.bind (T.loop (oJ K m1 m2 k1 k2) (r2,(zE,r1))) λ(v3,v4,v5) =>
 .ret (v4,v3)
theorem C7(s:zd)(hs:s.length<=1000000)(K:KR)(m1 m2:UInt8)(NH:m1≠0)(Y3:m2≠0)(k1 k2:Int)(r:zd)(h:r <:+ s)(k b:Int)(hk:k≠0)(d:Nat)(l:Bool)(e:Expr) :
  (T.loop (oJ K (m1.toNat:Int) (m2.toNat:Int) k1 k2) (xZ s r k b d l,(zE,e))).run=some (xZ s (hO r) k b d l,(e,e)):=by
 refine zL ?_
 unfold oJ
 rw[z6 (Wd s hs k b d l r h),if_neg hk]
 have z:∀ m:UInt8,m≠0->((0:Int)==(m.toNat:Int))=false:=λm hm=>by
  rw[show((0:Int)==(m.toNat:Int))=decide (0=m)from tn 0 m]
  grind
 rw[z8 (z m1 NH),z8 (z m2 Y3),z7]
theorem GH(s:zd)(hs:s.length<=1000000)(d:Nat)(K:KR)(Ks:Bool->zd->QR)(hK:∀ l r,r <:+ s->Ks l r≠.no->(K (xZ s r 0 0 d l)).run=nT s d (Ks l r))(hx:∀ l r,r <:+ s->(Ks l r).ov s d)(m1 m2:UInt8)(NH:m1≠0)(Y3:m2≠0)(hm:m1≠m2)(k1 k2:Int) :
  ∀ (n:Nat) (e:Expr) (r:zd) (l:Bool),r <:+ s->tU Ks m1 m2 k1 k2 n e r l≠.no ->
   match tU Ks m1 m2 k1 k2 n e r l with
   | .no=>True
   | .ok e' r' l'=>(T.loop (oJ K (m1.toNat:Int) (m2.toNat:Int) k1 k2) (xZ s r 0 0 d l,(zE,e))).run=some (xZ s r' 0 0 d l',(e',e'))
   | .er k b x r' d' l'=>(T.loop (oJ K (m1.toNat:Int) (m2.toNat:Int) k1 k2) (xZ s r 0 0 d l,(zE,e))).run=some (xZ s r' k ((xx s b:Nat):Int) d' l',(x,x))
 | 0,_,_,_,_,hn=>absurd rfl hn
 | n+1,e,r,l,h,hn=>by
  have ht:=Wd s hs 0 0 d l r h
  rw[if_pos rfl]at ht
  have hk:=(vE r).trans h
  have um:∀ c:UInt8,jb [m1,m2] r=none->hd5 (hO r)=(c.toNat:Int)->c≠m1/\c≠m2:=by
   intro c q hc
   unfold jb at q
   cases w:hO r with
   | nil =>
    rw[w]at hc
    have:c=0:=by
     have h0:((c.toNat:Int))=0:=hc.symm
     have:=tn c 0
     grind
    grind
   | cons c' q' =>
    rw[w]at hc q
    have Pt:c'=c:=by
     have hc:(c'.toNat:Int)=(c.toNat:Int):=hc
     have:=tn c' c
     grind
    grind
  unfold tU at hn ⊢
  cases q:jb [m1,m2] r with
  | none =>
   dsimp only
   refine zL ?_
   unfold oJ
   dsimp only
   rw[z6 ht]
   dsimp only
   obtain⟨c,hc⟩:∃ c:UInt8,hd5 (hO r)=(c.toNat:Int):=by
    cases hO r with
    | nil=>exact⟨0,rfl⟩
    | cons c _=>exact⟨c,rfl⟩
   obtain⟨n1,n2⟩:=um c q hc
   rw[hc,z8 (by rw[tn]; exact decide_eq_false n1),z8 (by rw[tn]; exact decide_eq_false n2),z7]
  | some x =>
   obtain⟨c,q'⟩:=x
   rw[q]at hn
   dsimp only at hn ⊢
   have hsf:=gL q
   rw[hsf.2.2]at ht hk
   have hq:=wo hk
   have Zb:=hK l q' hq
   have ZG:=hx l q' hq
   have Fp:c=m1\/c=m2:=by simpa using hsf.2.1
   have step:∀ e2 R2,(K (xZ s q' 0 0 d l)).run=some (e2,R2)->(oJ K (m1.toNat:Int) (m2.toNat:Int) k1 k2 (xZ s r 0 0 d l,(zE,e))).run=some (.inl (R2,(zE,lg (if c=m1 then k1 else k2) [e,e2]))):=by
    intro e2 R2 cM
    unfold oJ
    dsimp only
    rw[z6 ht]
    dsimp only
    rw[fK 0 0 d l hk hs]
    show(T.ite ((c.toNat:Int)==(m1.toNat:Int)) _ (T.ite ((c.toNat:Int)==(m2.toNat:Int)) _ _)).run=_
    rw[tn,tn]
    by_cases hc:c=m1
    ·rw[if_pos hc,za (decide_eq_true hc),z6 cM]
     rfl
    ·have h2:c=m2:=by rcases Fp with h | h; exact absurd h hc; exact h
     rw[if_neg hc,z8 (decide_eq_false hc),za (decide_eq_true h2),z6 cM]
     rfl
   cases z:Ks l q' with
   | no=>rw[z]at hn; exact absurd rfl hn
   | er k b x r' d' l' =>
    rw[z]at Zb ZG
    have Zb:=Zb (by simp)
    dsimp only
    rw[qu (step _ _ Zb)]
    exact C7 s hs K m1 m2 NH Y3 k1 k2 r' ZG.2.2.1 k _ ZG.1 d' l' _
   | ok e2 r2 l2 =>
    rw[z]at Zb hn ZG
    have Zb:=Zb (by simp)
    dsimp only at hn ⊢
    rw[qu (step _ _ Zb)]
    exact GH s hs d K Ks hK hx m1 m2 NH Y3 hm k1 k2 n _ r2 l2 ZG hn
theorem Gq(s:zd)(hs:s.length<=1000000)(d:Nat)(K:KR)(Ks:Bool->zd->QR)(hK:∀ l r,r <:+ s->Ks l r≠.no->(K (xZ s r 0 0 d l)).run=nT s d (Ks l r))(hx:∀ l r,r <:+ s->(Ks l r).ov s d)(m1 m2:UInt8)(NH:m1≠0)(Y3:m2≠0)(hm:m1≠m2)(k1 k2:Int)
  (n:Nat) (l:Bool) (r:zd) (h:r <:+ s) (hn:HA Ks m1 m2 k1 k2 n l r≠.no):(z4M K (m1.toNat:Int) (m2.toNat:Int) k1 k2 (xZ s r 0 0 d l)).run=nT s d (HA Ks m1 m2 k1 k2 n l r):=by
 have Zb:=hK l r h
 have ZG:=hx l r h
 unfold z4M
 unfold HA at hn ⊢
 cases z:Ks l r with
 | no=>grind
 | er k b x r' d' l' =>
  rw[z]at Zb ZG
  rw[z6 (Zb (by simp))]
  rw[z6 (C7 s hs K m1 m2 NH Y3 k1 k2 r' ZG.2.2.1 k _ ZG.1 d' l' _)]
  rfl
 | ok e r' l' =>
  rw[z]at Zb hn ZG
  have Zb:=Zb (by simp)
  dsimp only at hn ⊢
  have hl:=GH s hs d K Ks hK hx m1 m2 NH Y3 hm k1 k2 n e r' l' ZG hn
  rw[z6 Zb]
  cases w:tU Ks m1 m2 k1 k2 n e r' l' with
  | no=>grind
  | er k b x r2 d2 l2 =>
   rw[w]at hl
   rw[z6 hl]
   rfl
  | ok e2 r2 l2 =>
   rw[w]at hl
   rw[z6 hl]
   rfl
theorem H4(s:zd)(hs:s.length<=1000000)(FT ST:KR)(F S:Nat->Bool->zd->QR)
  (hF:∀ d l r,d<=31->r <:+ s->F d l r≠.no->(FT (xZ s r 0 0 d l)).run=nT s d (F d l r)) (hS:∀ d l r,d<=31->r <:+ s->S d l r≠.no->(ST (xZ s r 0 0 d l)).run=nT s d (S d l r))
  (xF:∀ d l r,d<=31->r <:+ s->(F d l r).ov s d) (xS:∀ d l r,d<=31->r <:+ s->(S d l r).ov s d) (d:Nat) (l:Bool) (r:zd) (hd:d<=31) (h:r <:+ s) (hn:D3 F S d l r≠.no):(wq FT ST (xZ s r 0 0 d l)).run=nT s d (D3 F S d l r):=by
 have ht:=Wd s hs 0 0 d l r h
 rw[if_pos rfl]at ht
 have hk:=(vE r).trans h
 unfold wq
 unfold D3 at hn ⊢
 have down:∀ (q:zd) (k b:Int) (d':Nat) (l':Bool),1<=d'->d'<=1000->(((xZ s q k b d' l').1,((xZ s q k b d' l').2.1,((xZ s q k b d' l').2.2.1,((xZ s q k b d' l').2.2.2.1,((zI ((xZ s q k b d' l').2.2.2.2.1-(1:Int))),((xZ s q k b d' l').2.2.2.2.2.1,())))))):zj)=xZ s q k b (d'-1) l':=by
  intro q k b d' l' h1 h2
  rw[z4J,zA (by omega) (by omega),show(d':Int)-1=((d'-1:Nat):Int) by omega]
  rfl
 rw[z6 ht]
 dsimp only
 cases e:hO r with
 | nil =>
  rfl
 | cons c q =>
  rw[e]at hn hk
  have hq:=wo hk
  dsimp only at hn ⊢
  have hw:=C2 s hs hk d hd l
  rw[show hd5 (c::q)=(c.toNat:Int)from rfl,show((c.toNat:Int)==45)=decide (c=45)from tn c 45,show((c.toNat:Int)==40)=decide (c=40)from tn c 40]
  by_cases c45:c=45
  ·rw[if_pos c45]at hn ⊢
   rw[za (decide_eq_true c45),z6 hw]
   by_cases c31:31<=d
   ·rw[if_pos c31,if_pos c31]; rfl
   ·rw[if_neg c31]at hn
    rw[if_neg c31,if_neg c31]
    dsimp only
    rw[z8 (by rfl)]
    have hf:=hF (d+1) l q (by omega) hq
    have xf:=xF (d+1) l q (by omega) hq
    cases z:F (d+1) l q with
    | no=>grind
    | er k b x r' d' l' =>
     rw[z]at hf xf
     rw[z6 (hf (by simp))]
     dsimp only
     rw[z7,down _ _ _ _ _ (by have:=xf.2.2.2.1; omega) xf.2.2.2.2]
     rfl
    | ok e2 r2 l2 =>
     rw[z]at hf
     rw[z6 (hf (by simp))]
     dsimp only
     rw[z7,down _ _ _ _ _ (by omega) (by omega)]
     rfl
  ·rw[if_neg c45]at hn ⊢
   rw[z8 (decide_eq_false c45)]
   by_cases c40:c=40
   ·rw[if_pos c40]at hn ⊢
    rw[za (decide_eq_true c40),z6 hw]
    by_cases c31:31<=d
    ·rw[if_pos c31,if_pos c31]; rfl
    ·rw[if_neg c31]at hn
     rw[if_neg c31,if_neg c31]
     dsimp only
     rw[z8 (by rfl)]
     have hf:=hS (d+1) l q (by omega) hq
     have xf:=xS (d+1) l q (by omega) hq
     cases z:S (d+1) l q with
     | no=>rw[z]at hn; exact absurd rfl hn
     | er k b x r' d' l' =>
      rw[z]at hf xf
      rw[z6 (hf (by simp))]
      dsimp only
      have Iy:=YA s hs k ((xx s b:Nat):Int) d' l' r' xf.2.2.1
      rw[if_neg xf.1]at Iy
      rw[z6 Iy]
      dsimp only
      rw[za (by rfl),z6 (cw _ _ _ _ _ _ _),if_neg xf.1]
      rfl
     | ok e2 r2 l2 =>
      rw[z]at hf xf
      rw[z6 (hf (by simp))]
      dsimp only
      have Iy:=YA s hs 0 0 (d+1) l2 r2 xf
      rw[if_pos rfl]at Iy
      rw[z6 Iy]
      cases w:jb [41] r2 with
      | none =>
       dsimp only
       rw[za (by rfl),z6 (cw _ _ _ _ _ _ _),if_pos rfl]
       rfl
      | some x =>
       obtain⟨c',q'⟩:=x
       dsimp only
       rw[z8 (by rfl),z7,down _ _ _ _ _ (by omega) (by omega)]
       rfl
   ·rw[if_neg c40]at hn ⊢
    rw[z8 (decide_eq_false c40),z6 (CA c)]
    cases hD:wH c with
    | true =>
     rw[if_pos rfl,zk]
     have oT:=Ed s hs d l (c::q) hk (by rw[List.takeWhile_cons_of_pos hD]; simp)
     cases z:Cu d (c::q) l with
     | no =>
      exfalso
      rw[if_pos hD,z]at hn
      exact hn rfl
     | er k b x r' d' l'=>rw[z]at oT; rw[z6 oT]; rfl
     | ok e2 r2 l2=>rw[z]at oT; rw[z6 oT]; rfl
    | false =>
     rw[if_neg (by simp),zf]
     have h1:(wB (c.toNat:Int)).run=some (JJ c):=rfl
     rw[z6 h1]
     cases hL:JJ c with
     | true =>
      rw[if_pos rfl,zk]
      have z1O:=Nv s hs d l (c::q) hk
      cases z:D1 d (c::q) l with
      | no=>exfalso; unfold D1 at z; split at z<;>cases z
      | er k b x r' d' l'=>rw[z]at z1O; rw[z6 z1O]; rfl
      | ok e2 r2 l2=>rw[z]at z1O; rw[z6 z1O]; rfl
     | false =>
      rw[if_neg (by simp),zf,z6 (cw _ _ _ _ _ _ _),if_pos rfl]
      rfl
theorem sC{s:zd}{d:Nat}{R:QR}(h:R≠.no):∃ y,nT s d R=some y:=by
 cases R with
 | no=>grind
 | er=>exact⟨_,rfl⟩
 | ok=>exact⟨_,rfl⟩
theorem DY(s:zd)(hs:s.length<=1000000)(ST:KR)(N:Nat)(hS:∀ m,m<=N->∀ d l r,d<=31->r <:+ s->qS m d l r≠.no->(ST (xZ s r 0 0 d l)).run=nT s d (qS m d l r))
  (n:Nat) (hn:n<=N+1) (d:Nat) (l:Bool) (r:zd) (hd:d<=31) (h:r <:+ s) (kl:qF n d l r≠.no):(vp ST (xZ s r 0 0 d l)).run=nT s d (qF n d l r):=by
 obtain⟨y,hy⟩:=sC (s:=s) (d:=d) kl
 rw[hy]
 refine T.U1 (λn x y=>n<=N+1/\∃ d l r,d<=31/\r <:+ s/\x=xZ s r 0 0 d l/\qF n d l r≠.no/\nT s d (qF n d l r)=some y) (λx y => ?_) (λn x y hx g hg => ?_) (n:=n) ⟨hn,d,l,r,hd,h,rfl,kl,hy⟩
 ·nofun
 ·obtain⟨hn,d,l,r,hd,h,rfl,kl,hy⟩:=hx
  rw[<- hy]
  have hgF:∀ d l r,d<=31->r <:+ s->qF n d l r≠.no->(g (xZ s r 0 0 d l)).run=nT s d (qF n d l r):=by
   intro d l r hd h kl
   obtain⟨y,hy⟩:=sC (s:=s) (d:=d) kl
   grind
  exact H4 s hs (λy0=>g y0) ST (qF n) (qS n) hgF (hS n (by omega)) (XE s n).1 (XE s n).2.2 d l r hd h kl
theorem Hy(s:zd)(hs:s.length<=1000000)(ST:KR)(N:Nat)(hS:∀ m,m<=N->∀ d l r,d<=31->r <:+ s->qS m d l r≠.no->(ST (xZ s r 0 0 d l)).run=nT s d (qS m d l r))
  (n:Nat) (hn:n<=N+1) (d:Nat) (l:Bool) (r:zd) (hd:d<=31) (h:r <:+ s) (kl:qP n d l r≠.no):(wS ST (xZ s r 0 0 d l)).run=nT s d (qP n d l r):=by
 cases n with
 | zero=>exact absurd (by rfl) kl
 | succ n =>
  exact Gq s hs d (vp ST) (qF n d) (λl r h kl=>DY s hs ST N hS n (by omega) d l r hd h kl) (λl r h=>(XE s n).1 d l r hd h) 42 47 (by decide) (by decide) (by decide) 5 6 n l r h kl
theorem RS(s:zd)(hs:s.length<=1000000)(n:Nat)(d:Nat)(l:Bool)(r:zd)(hd:d<=31)(h:r <:+ s)(kl:qS n d l r≠.no):(uE (xZ s r 0 0 d l)).run=nT s d (qS n d l r):=by
 unfold uE
 obtain⟨y,hy⟩:=sC (s:=s) (d:=d) kl
 rw[hy]
 refine T.U1 (λn x y=>∃ m,m<=n/\∃ d l r,d<=31/\r <:+ s/\x=xZ s r 0 0 d l/\qS m d l r≠.no/\nT s d (qS m d l r)=some y) (λx y => ?_) (λn x y hx g hg => ?_) (n:=n) ⟨n,Nat.le_refl _,d,l,r,hd,h,rfl,kl,hy⟩
 ·rintro⟨m,hm,d,l,r,_,_,_,h,_⟩
  have:m=0:=by omega
  subst this
  exact h (by unfold qS; rfl)
 ·obtain⟨m,hm,d,l,r,hd,h,rfl,kl,hy⟩:=hx
  rw[<- hy]
  cases m with
  | zero=>exact absurd (by unfold qS; rfl) kl
  | succ m =>
   have hg2:∀ k,k<=m->∀ d l r,d<=31->r <:+ s->qS k d l r≠.no->(g (xZ s r 0 0 d l)).run=nT s d (qS k d l r):=by
    intro k hk d l r hd h kl
    obtain⟨y,hy⟩:=sC (s:=s) (d:=d) kl
    grind
   exact Gq s hs d (wS λy0=>g y0) (qP m d) (λl r h kl=>Hy s hs (λy0=>g y0) m hg2 m (by omega) d l r hd h kl) (λl r h=>(XE s m).2.1 d l r hd h) 43 45 (by decide) (by decide) (by decide) 3 4 m l r h kl
theorem Lp(K:Bool->zd->PR)(m1 m2:UInt8)(k1 k2:Int):∀ (n:Nat) (e:Expr) (r:zd) (l:Bool) (e':Expr) (r':zd) (l':Bool),fc K m1 m2 k1 k2 n e r l=.ok e' r' l'->hO r'=r'
 | 0,_,_,_,_,_,_,h=>by cases h
 | n+1,e,r,l,e',r',l',h=>by
  unfold fc at h
  split at h
  ·cases h; exact z05 r
  ·rename_i c q ht
   cases z:K l q with
   | no=>rw[z]at h; cases h
   | er=>rw[z]at h; cases h
   | ok e2 q2 l2=>rw[z]at h; exact Lp K m1 m2 k1 k2 n _ q2 l2 e' r' l' h
theorem z39{z:Rat}{s:zd}{e:Expr}{r:zd}{l:Bool}(h:iA z s=.ok e r l):hO r=r:=by
 unfold iA pS rowP at h
 generalize 3*s.length+2=n at h
 cases w:pP z n 0 false s with
 | no=>rw[w]at h; cases h
 | er=>rw[w]at h; cases h
 | ok e2 q2 l2=>rw[w]at h; exact Lp _ _ _ _ _ n _ _ _ _ _ _ h
theorem oR(s:zd)(hs:s.length<=90000):(jr s).run=some (qC s):=by
 have kl:=Nf jP s
 have hg0:=Xv jP s
 have hsP:=DU qm s
 have hrel:(qS (3*s.length+3) 0 false s).rel false (iA qm s):=(z0I (3*s.length+3)).2.2 0 false s
 have hsQ:=(XE s (3*s.length+3)).2.2 0 false s (by omega) (List.suffix_refl s)
 have zeV:qS (3*s.length+3) 0 false s≠.no:=by
  intro h
  rw[h]at hrel
  cases w:iA qm s with
  | no=>exact kl w
  | er=>rw[w]at hrel; exact hrel
  | ok=>rw[w]at hrel; exact hrel
 have wY:=RS s (by omega) (3*s.length+3) 0 false s (by omega) (List.suffix_refl s) zeV
 have e0:xZ s s 0 0 0 false=(s,((0:Int),((0:Int),((0:Int),((0:Int),(false,())))))):=by unfold xZ; rw[G1]; rfl
 rw[e0]at wY
 -- an error is met
 have z9o:∀ (k:Int) (b r:zd) (x:Expr) (d:Nat) (l:Bool),k≠0->(b <:+ s)->(r <:+ s)->(uE (s,((0:Int),((0:Int),((0:Int),((0:Int),(false,()))))))).run=some (x,xZ s r k ((xx s b:Nat):Int) d l)->(jr s).run=some (zE,(((xx s b:Nat):Int),k)):=by
  intro k b r x d l hk hb hr h
  unfold jr
  rw[z6 h]
  dsimp only
  rw[z6 (l9 s (by omega) k _ d l r hr)]
  rw[z6 (a:=(zE,(xZ s (hO r) k ((xx s b:Nat):Int) d l,x))) (by rw[Wi,z8 (by rw[show(k==(0:Int))=false by simpa using hk]; rfl),z7])]
  dsimp only
  rw[Wi,z9i,za (by simpa using hk),z7]
 unfold qC
 cases wP:iA qm s with
 | no=>grind
 | er k b r d l =>
  rw[wP]at hrel
  cases wQ:qS (3*s.length+3) 0 false s with
  | no=>grind
  | ok=>rw[wQ]at hrel; exact hrel.elim
  | er k' b' x r' d' l' =>
   rw[wQ]at hrel wY hsQ
   obtain⟨rfl,rfl⟩:=hrel
   rw[z9o k' b' r' x d' l' hsQ.1 hsQ.2.1 hsQ.2.2.1 wY]
   unfold E0 pc
   dsimp only
   rw[if_pos hsQ.1]
 | ok e r l =>
  rw[wP]at hrel hsP hg0
  have hsk:=z39 wP
  cases wQ:qS (3*s.length+3) 0 false s with
  | no=>grind
  | er k' b' x r' d' l' =>
   rw[wQ]at hrel wY hsQ
   obtain⟨rfl,rfl,xV⟩:=hrel
   rw[z9o 2 b' r' x d' l' hsQ.1 hsQ.2.1 hsQ.2.2.1 wY]
   cases b' with
   | nil=>cases xV
   | cons c q =>
    rfl
  | ok e' r' l' =>
   rw[wQ]at hrel wY
   obtain⟨rfl,rfl,hee⟩:=hrel
   unfold jr
   rw[z6 wY]
   dsimp only
   rw[z6 (l9 s (by omega) 0 0 0 l' r' hsP),hsk]
   cases r' with
   | cons c q =>
    rw[z6 (a:=(zE,(xZ s (c::q) 2 ((xx s (c::q):Nat):Int) 0 l',e'))) (by rw[Wi,ux,za (by rw[dR hsP]; rfl),z6 (cw _ _ _ _ _ _ _),if_pos rfl,z7])]
    rfl
   | nil =>
    rw[z6 (a:=(zE,(xZ s [] 0 0 0 l',e'))) (by rw[Wi,ux,z8 (by rw[mh]; rfl),z7])]
    rw[Wi,z9p,z8 (by rfl)]
    unfold E0 pc
    dsimp only
    rw[if_neg (by decide)]
    rw[z6 (a:=(decide (l'=true\/Er e=false),(zE,(xZ s [] 0 0 0 l',e'))))]
    ·dsimp only
     by_cases c2:l'=true\/Er e=false
     ·rw[za (decide_eq_true c2),z7,if_pos c2]
     ·rw[z8 (decide_eq_false c2),z7,if_neg c2]
      grind
    ·cases l' with
     | true=>rfl
     | false =>
      obtain⟨_,rfl⟩:=hee rfl
      have h2:=hg0.2
      have h3:=hg0.1.2
      have hI:=Uy e' hg0.1.1 (by omega) (by omega)
      rw[zf,z6 hI,z7]
      simp
def mI(a b:Rat):Bool:=((norm a).1==(norm b).1)&&(((norm a).2.1==(norm b).2.1)&&((norm a).2.2.1==(norm b).2.2.1))
theorem No{a b:Rat}:mI a b=true↔norm a=norm b:=by
 unfold mI
 grind
mutual
def sameE:Expr->Expr->Bool
 | .mk k n s l,.mk k' n' s' l'=>(k==k')&&(zi s s'&&(mI n n'&&sameEs l l'))
def sameEs:List Expr->List Expr->Bool
 | [],[]=>true
 | a::r,b::r'=>sameE a b&&sameEs r r'
 | [],_::_=>false
 | _::_,[]=>false
end
theorem U8:∀ (a b:List Expr),a.length≠b.length->sameEs a b=false
 | [],[],h=>absurd rfl h
 | _::r,_::r',h=>by
  show(sameE _ _&&sameEs r r')=false
  rw[U8 r r' (λe=>h (by grind)),Bool.and_false]
 | [],_::_,_=>rfl
 | _::_,[],_=>rfl
theorem F0(s:zd):zi s s=true:=by rw[xR]; simp
mutual
theorem cL:∀ (e:Expr),sameE e e=true
 | .mk k n s l=>by
  show((k==k)&&(zi s s&&(mI n n&&sameEs l l)))=true
  rw[F0,No.2 rfl,WT l]; simp
theorem WT:∀ (l:List Expr),sameEs l l=true
 | []=>rfl
 | a::r=>by
  show(sameE a a&&sameEs r r)=true
  rw[cL a,WT r]; rfl
end
theorem Ts(R:Int->T (Int⊕(Unit⊕Bool)))(a b:List Expr)(hl:a.length=b.length)
  (step:∀ k (h:k<a.length) (h':k<b.length),(R (k:Int)).run=some (if sameE a[k] b[k]=true then .inl ((k+1:Nat):Int)else .inr (.inr false)))
  (done:(R (a.length:Int)).run=some (.inr (.inl ()))):(T.loop R 0).run=some (if sameEs a b=true then .inl ()else .inr false):=by
 have key:∀ (m k:Nat),k+m=a.length->(T.loop R (k:Int)).run=some (if sameEs (a.drop k) (b.drop k)=true then .inl ()else .inr false):=by
  intro m
  induction m with
  | zero =>
   intro k hk
   have:k=a.length:=by omega
   subst this
   rw[List.drop_length,hl,List.drop_length]
   rw[hl]at done
   exact zL done
  | succ m ih =>
   intro k hk
   have h1:k<a.length:=by omega
   have h2:k<b.length:=by omega
   rw[List.drop_eq_getElem_cons h1,List.drop_eq_getElem_cons h2]
   show _=some (if(sameE a[k] b[k]&&sameEs (a.drop (k+1)) (b.drop (k+1)))=true then _ else _)
   have st:=step k h1 h2
   cases q:sameE a[k] b[k]with
   | true =>
    rw[q,if_pos rfl]at st
    rw[qu st,Bool.true_and]
    grind
   | false =>
    rw[q,if_neg (by simp)]at st
    exact zL st
 have:=key a.length 0 (by omega)
 grind
theorem tR(a b:Rat)(ha:yH a)(hb:yH b):(cK a b).run=some (mI a b):=by
 have na:=nn (k:=100) (by omega) ha
 unfold cK mI
 rw[z6 (eK a (fj ha (by omega))),z6 (eK b (fj hb (by omega)))]
 cases((norm a).1==(norm b).1)with
 | false=>rfl
 | true =>
  rw[zk,z6 (mN _ _ (by have:=na.2.2.1; omega)),Bool.true_and]
  cases((norm a).2.1==(norm b).2.1)with
  | false=>rfl
  | true=>rw[zk,z6 (mN _ _ (by have:=na.2.2.2; omega)),z7,Bool.true_and]
theorem Ir(e:Expr):(Expr.kids e).length<=vB e:=by
 cases e with | mk k n s l =>
 have:=pY l
 show l.length<=1+ue l
 omega
theorem cQ(a b:Expr)(ha:allOk a)(hb:allOk b)(la:vB a<=1000000):(eP a b).run=some (sameE a b):=by
 refine nf (λx:Expr×Expr=>allOk x.1/\allOk x.2/\vB x.1<=1000000) (λx=>vB x.1) (λx=>sameE x.1 x.2) (λx hx g hg => ?_) (x:=(a,b)) ⟨ha,hb,la⟩
 obtain⟨a,b⟩:=x
 obtain⟨ha,hb,la⟩:=hx
 dsimp only at ha hb la ⊢
 cases a with | mk k n s l =>
 cases b with | mk k' n' s' l' =>
 have hk:=Ir (.mk k n s l)
 have hk:l.length<=vB (.mk k n s l):=hk
 show _=some ((k==k')&&(zi s s'&&(mI n n'&&sameEs l l')))
 have head:((.ite (k != k') (.ret true) (.ite (!(zi s s')) (.ret true) (T.bind (cK n n') λr=>.ite (!r) (.ret true) (.ret ((Nat.cast (List.length l):Int) != (Nat.cast (List.length l'):Int)))))):T Bool).run=some (!((k==k')&&(zi s s'&&(mI n n'&&((l.length:Int)==(l'.length:Int)))))):=by
  rw[bne]
  cases(k==k')with
  | false=>rfl
  | true =>
   rw[z8 (by rfl)]
   cases zi s s' with
   | false=>rfl
   | true =>
    rw[z8 (by rfl),z6 (tR n n' ha.1 hb.1)]
    cases mI n n' with
    | false=>rfl
    | true=>rfl
 show(T.bind (.ite (k != k') (.ret true) (.ite (!(zi s s')) (.ret true) (T.bind (cK n n') λr=>.ite (!r) (.ret true) (.ret ((Nat.cast (List.length l):Int) != (Nat.cast (List.length l'):Int)))))) _).run=_
 rw[z6 head]
 cases q:((k==k')&&(zi s s'&&(mI n n'&&((l.length:Int)==(l'.length:Int)))))with
 | false =>
  rw[za (by rfl),z7]
  congr 1
  by_cases hl:l.length=l'.length
  ·grind
  ·rw[U8 l l' hl]
   simp
 | true =>
  simp only[Bool.and_eq_true,beq_iff_eq]at q
  obtain⟨q1,q2,q3,q4⟩:=q
  have hl:l.length=l'.length:=by omega
  rw[z8 (by rfl),q2,q3,show(k==k')=true by simpa using q1,Bool.true_and,Bool.true_and,Bool.true_and]
  have key:(QJ (λy0 y1=>g (y0,y1)) (.mk k n s l) (.mk k' n' s' l') 0).run=some (if sameEs l l'=true then .inl ()else .inr false):=by
   refine Ts (bm (λy0 y1=>g (y0,y1)) (.mk k n s l) (.mk k' n' s' l')) l l' hl (λj h h' => ?_) ?_
   ·have hr:=hg (l[j],l'[j]) ⟨eU ha.2 _ (List.getElem_mem h),eU hb.2 _ (List.getElem_mem h'),by have:=mz (List.getElem_mem h); have e:vB (.mk k n s l)=1+ue l:=rfl; show vB l[j]<=1000000; omega⟩ (by have:=mz (List.getElem_mem h); have e:vB (.mk k n s l)=1+ue l:=rfl; show vB l[j]<vB (.mk k n s l); omega)
    unfold bm
    rw[show Expr.kids (.mk k n s l)=l from rfl,show Expr.kids (.mk k' n' s' l')=l' from rfl,za (vQ h),zb (zG h),zb (zG h'),bV h,bV h',z6 hr]
    cases sameE l[j] l'[j]with
    | false=>rfl
    | true=>rw[z8 (by rfl),z7,eS j _ h (by omega),if_pos rfl]
   ·unfold bm
    rw[show Expr.kids (.mk k n s l)=l from rfl,z8 (oB _),z7]
  rw[z6 key]
  cases sameEs l l'<;>rfl
theorem z5e:zB 2=[2]:=by rw[ye (by omega),show 2 / 4294967296=0 from rfl,qs]; rfl
theorem SL:om [50]=(false,[2],[1],()):=by
 have e:oy [50]=some (2,1):=by decide +kernel
 unfold om
 rw[e]
 show uz _ 2 1=_
 unfold uz
 rw[if_neg (by decide),show 2 / Nat.gcd 2 1=2 from rfl,show 1 / Nat.gcd 2 1=1 from rfl,z5e,z02]
 rfl
def KM(s:zd):Expr:=.mk 2 qm s []
theorem TC:norm (false,[2],[1],())=(false,[2],[1],()):=by
 rw[<- SL]
 have e:oy [50]=some (2,1):=by decide +kernel
 have:om [50]=uz (List.isPrefixOf [45] [50]) 2 1:=by
  unfold om
  rw[e]
  rfl
 rw[this]
 exact OU _ _ _
theorem z1e:yr (om [50])=true:=by
 rw[SL]
 unfold yr ou cN trimB
 rw[TC]
 show(((zB 2==[2])&&((zB 1==[1])&&_))&&_)=true
 rw[z5e,z02]
 rfl
theorem DI(s:zd):gw (qC s).1/\vB (qC s).1<=s.length+1:=by
 have hg:=Gb (s:=s) (R:=iA qm s) (N:=s.length+1) (by
  have:=Xv jP s
  cases q:iA qm s with
  | no=>trivial
  | er=>trivial
  | ok e r l=>rw[q]at this; exact⟨this.1,by have:=this.2; omega⟩) (by omega)
 have hz:gw zE/\vB zE<=s.length+1:=⟨Vz,by show(1:Nat)+0<=s.length+1; omega⟩
 unfold qC E0
 split
 ·exact hz
 ·split
  ·exact hz
  ·exact hg
theorem zl{α:Type}(n:Nat)(t:T α):(T.zx (xN n 0 n n) t).run=t.run:=by simp
theorem NV(s:zd)(h:s.length<=1000000000):(lh s).run=some (xP 32 [] s):=by
 have e:(strings_FieldsFunc s (λz0=>bU z0)).run=some (xP 32 [] s):=by
  unfold strings_FieldsFunc
  rw[zb (by omega),z7]
 unfold lh
 rw[z6 e,z7]
def gU:zd->Option (zd×Int×zd)
 | []=>none
 | b::r=>if b=61 then some ([],0,r)else if b=60 then(if[61].isPrefixOf r=true then some ([],2,r.drop 1)else some ([],1,r))else
   match gU r with
   | some (l,c,q)=>some (b::l,c,q)
   | none=>none
theorem Zi:∀ {s:zd},(∀ b∈s,b≠60/\b≠61)->gU s=none
 | [],_=>rfl
 | b::r,h=>by
  have hb:=h b List.mem_cons_self
  unfold gU
  rw[if_neg hb.2,if_neg hb.1,Zi λx hx=>h x (List.mem_cons_of_mem _ hx)]
theorem Xs:∀ {a:zd} (t:zd),(∀ b∈a,b≠60/\b≠61)->gU (a++t)=(match gU t with | some (l,c,q)=>some (a++l,c,q) | none=>none)
 | [],t,_=>by
  grind
 | b::a,t,h=>by
  have hb:=h b List.mem_cons_self
  show(if b=61 then _ else if b=60 then _ else match gU (a++t)with | some (l,c,q)=>some (b::l,c,q) | none=>none)=_
  rw[if_neg hb.2,if_neg hb.1,Xs t λx hx=>h x (List.mem_cons_of_mem _ hx)]
  cases gU t<;>rfl
theorem UI:∀ s:zd,(c6 s [60,61] = -1/\∀ b∈s,b≠60/\b≠61)\/∃ (a:zd) (c:UInt8) (r:zd),s=a++c::r/\(c=60\/c=61)/\(∀ b∈a,b≠60/\b≠61)/\c6 s [60,61]=(a.length:Int)
 | []=>.inl ⟨rfl,λb h=>by cases h⟩
 | b::r=>by
  by_cases hb:b=60\/b=61
  ·refine .inr ⟨[],b,r,rfl,hb,λx h=>absurd h List.not_mem_nil,?_⟩
   unfold c6
   grind
  ·have hn:b≠60/\b≠61:=⟨λh=>hb (.inl h),λh=>hb (.inr h)⟩
   have e:c6 (b::r) [60,61]=if c6 r [60,61] == -1 then -1 else c6 r [60,61]+1:=by
    show(if([60,61]:zd).contains b=true then _ else _)=_
    grind
   rcases UI r with⟨h1,h2⟩ | ⟨a,c,q,rfl,h2,h3,h4⟩
   ·grind
   ·grind
theorem z2n(a:zd)(c:UInt8)(r:zd):qz ((a.length:Nat):Int) ((a.length+1:Nat):Int) (a++c::r)=[c]:=by
 rw[vP]
 grind
theorem UG(a t:zd):qz (0:Int) ((a.length:Nat):Int) (a++t)=a:=by
 have:=vP (a++t) 0 a.length
 grind
theorem Xu(a:zd)(c:UInt8)(r:zd):qz ((a.length+1:Nat):Int) (((a++c::r).length:Nat):Int) (a++c::r)=r:=by
 rw[vP,List.take_length,show a++c::r=(a++[c])++r by simp,List.drop_left' (by simp)]
theorem F1(s p:zd)(h:s.length<=1000000000)(hp:p.length<=1000000):(strings_HasPrefix s p).run=some (List.isPrefixOf p s):=by
 have e:(xM s p).run=some (List.isPrefixOf p s):=by
  unfold xM
  rw[zb (λhd=>xG.2 ⟨by omega,by omega,by grind⟩),z7]
  have hc:qz (0:Int) ((p.length:Nat):Int) s=s.take p.length:=by
   rfl
  congr 1
  rw[Bool.eq_iff_iff,Bool.and_eq_true,decide_eq_true_eq,xR,decide_eq_true_eq,List.isPrefixOf_iff_prefix,List.prefix_iff_eq_take]
  grind
 unfold strings_HasPrefix
 rw[z6 e,z7]
def yt(fa s:zd):Expr×Expr×zd×Int:=match gU s with
 | none=>(zE,(zE,(([]:zd),(2:Int))))
 | some (l,c,r)=>if(qC l).2.2≠0 then((qC l).1,(zE,(([]:zd),(qC l).2.2)))
  else((qC l).1,((qC r).1,(cC c,(if(qC r).2.2=0/\¬ (0<=dZ fa (cC c))then 2 else(qC r).2.2))))
theorem Qt(s fa:zd)(hs:s.length<=80000)(hg:fa.length<=1000):(u7 s fa).run=some (yt fa s):=by
 have hI:(strings_IndexAny s [60,61]).run=some (c6 s [60,61]):=by
  unfold strings_IndexAny
  rw[zb ⟨by omega,by decide,by decide,by decide⟩,z7]
 unfold u7
 rw[z6 hI]
 rcases UI s with⟨h1,h2⟩ | ⟨a,c,r,rfl,hc,ha,hi⟩
 ·rw[h1,za (by rfl),z7]
  unfold yt
  rw[Zi h2]
 ·have hlen:(a++c::r).length=a.length+(r.length+1):=by rw[List.length_append,List.length_cons]
  have hw:zI (((a.length:Nat):Int)+1)=((a.length+1:Nat):Int):=by rw[zA (by omega) (by omega)]; omega
  rw[hi,z8 (decide_eq_false (by omega)),hw,zb (xG.2 ⟨by omega,by omega,by omega⟩),zb (xG.2 ⟨by omega,by omega,by omega⟩),zb (xG.2 ⟨by omega,by omega,by omega⟩),z2n,Xu,UG]
  have fin:∀ (cm:Int) (q:zd),gU (a++c::r)=some (a,cm,q)->q.length<=80000->(cm=0\/cm=1\/cm=2)->(T.bind (kD a) λ(r1,r2,e) =>
   .ite (e != (0:Int))
    (.ret (r1,(zE,(([]:zd),e))))
    (T.bind (T.bind (kD q) λ(r3,r4,e1) =>
       T.bind (.ite (e1==(0:Int))
          (T.bind (strings_Contains fa (cC cm)) λr5 =>
           .ret ((!r5),(r1,r3)))
          (.ret (false,(r1,r3))):T ((Bool×AM.Expr×AM.Expr))) λ(x1,v4,v5) =>
       .ite x1
        (.ret ((2:Int),(v4,v5)))
        (.ret (e1,(v4,v5))):T ((Int×AM.Expr×AM.Expr))) λ(e2,v6,v7) =>
     .ret (v6,(v7,(cC cm,e2)))):T (AM.Expr×AM.Expr×zd×Int)).run=some (yt fa (a++c::r)):=by
   intro cm q he hq hcm
   unfold yt
   rw[he,z6 (Yu a (by omega))]
   dsimp only
   have hQ:=Yu q (by omega)
   generalize qC a=A
   generalize qC q=B at hQ ⊢
   obtain⟨A1,A2,A3⟩:=A
   obtain⟨B1,B2,B3⟩:=B
   dsimp only
   by_cases e:A3≠0
   ·rw[if_pos e,za (by simpa using e),z7]
   ·rw[if_neg e,z8 (by simpa using e)]
    have hC:(strings_Contains fa (cC cm)).run=some (decide ((0:Int)<=dZ fa (cC cm))):=by
     unfold strings_Contains
     rw[zb (by omega),z7]
    have inner:(T.bind (kD q) λ(r3,r4,e1) =>
       T.bind (.ite (e1==(0:Int))
          (T.bind (strings_Contains fa (cC cm)) λr5 =>
           .ret ((!r5),(A1,r3)))
          (.ret (false,(A1,r3))):T ((Bool×AM.Expr×AM.Expr))) λ(x1,v4,v5) =>
       .ite x1
        (.ret ((2:Int),(v4,v5)))
        (.ret (e1,(v4,v5))):T ((Int×AM.Expr×AM.Expr))).run=some ((if B3=0/\¬ (0<=dZ fa (cC cm))then 2 else B3),(A1,B1)):=by
     rw[z6 hQ]
     dsimp only
     by_cases e2:B3=0
     ·subst e2
      have hb:(.ite (((0:Int))==(0:Int)) (T.bind (strings_Contains fa (cC cm)) λr5=>.ret ((!r5),(A1,B1))) (.ret (false,(A1,B1))):T ((Bool×AM.Expr×AM.Expr))).run=some ((!decide ((0:Int)<=dZ fa (cC cm))),(A1,B1)):=by
       rw[za (by rfl),z6 hC,z7]
      rw[z6 hb]
      dsimp only
      by_cases k:(0:Int)<=dZ fa (cC cm)
      ·rw[if_neg (λh=>h.2 k),z8 (by rw[decide_eq_true k]; rfl),z7]
      ·rw[if_pos ⟨rfl,k⟩,za (by rw[decide_eq_false k]; rfl),z7]
     ·have hb:(.ite (B3==(0:Int)) (T.bind (strings_Contains fa (cC cm)) λr5=>.ret ((!r5),(A1,B1))) (.ret (false,(A1,B1))):T ((Bool×AM.Expr×AM.Expr))).run=some (false,(A1,B1)):=by
       rw[z8 (by simpa using e2),z7]
      rw[z6 hb]
      dsimp only
      rw[if_neg (λh=>e2 h.1),zf,z7]
    rw[z6 inner]
    dsimp only
    rw[z7]
  have cx:=Xs (c::r) ha
  rcases hc with rfl | rfl
  ·have hp:=F1 r [61] (by omega) (by decide)
   have hq:(.ite (zi ([60]:zd) ([60]:zd)) (T.bind (strings_HasPrefix r ([61]:zd)) λr=>.ret (r,(zE,zE))) (.ret (false,(zE,zE))):T (Bool×AM.Expr×AM.Expr)).run=some (List.isPrefixOf [61] r,(zE,zE)):=by
    rw[za (jm _),z6 hp,z7]
   have ec:gU (60::r)=(if[61].isPrefixOf r=true then some ([],2,r.drop 1)else some ([],1,r)):=by
    show(if(60:UInt8)=61 then _ else if(60:UInt8)=60 then _ else _)=_
    rw[if_neg (by decide),if_pos rfl]
   rw[ec]at cx
   by_cases k:[61].isPrefixOf r=true
   ·rw[if_pos k]at cx
    have hr:r.length >= 1:=by
     cases r with
     | nil=>cases k
     | cons x y=>simp
    have Iy:(T.bind (.ite (zi ([60]:zd) ([60]:zd)) (T.bind (strings_HasPrefix r ([61]:zd)) λr=>.ret (r,(zE,zE))) (.ret (false,(zE,zE))):T (Bool×AM.Expr×AM.Expr)) λ(x,v,v1) =>
     .ite x
      (.zx (wW (1:Int) ((r.length:Nat):Int) (List.length r)) <|
       .ret (([60,61]:zd),((qz (1:Int) ((r.length:Nat):Int) r),(v,v1))))
      (.ret (([60]:zd),(r,(v,v1)))):T ((zd×zd×AM.Expr×AM.Expr))).run=some (([60,61]:zd),(r.drop 1,(zE,zE))):=by
     rw[z6 hq]
     dsimp only
     rw[za k,zb (xG.2 ⟨by omega,by omega,by omega⟩),z7]
     have:=vP r 1 r.length
     rw[List.take_length]at this
     rw[show qz (1:Int) ((r.length:Nat):Int) r=r.drop 1 from this]
    refine(z6 Iy _).trans ?_
    exact fin 2 (r.drop 1) (by rw[cx]; simp) (by rw[List.length_drop]; omega) (.inr (.inr rfl))
   ·rw[if_neg k]at cx
    have Iy:(T.bind (.ite (zi ([60]:zd) ([60]:zd)) (T.bind (strings_HasPrefix r ([61]:zd)) λr=>.ret (r,(zE,zE))) (.ret (false,(zE,zE))):T (Bool×AM.Expr×AM.Expr)) λ(x,v,v1) =>
     .ite x
      (.zx (wW (1:Int) ((r.length:Nat):Int) (List.length r)) <|
       .ret (([60,61]:zd),((qz (1:Int) ((r.length:Nat):Int) r),(v,v1))))
      (.ret (([60]:zd),(r,(v,v1)))):T ((zd×zd×AM.Expr×AM.Expr))).run=some (([60]:zd),(r,(zE,zE))):=by
     rw[z6 hq]
     dsimp only
     rw[z8 (by cases hh:List.isPrefixOf [61] r with | false=>rfl | true=>exact absurd hh k),z7]
    refine(z6 Iy _).trans ?_
    exact fin 1 r (by rw[cx]; simp) (by omega) (.inr (.inl rfl))
  ·have ec:gU (61::r)=some ([],0,r):=by
    show(if(61:UInt8)=61 then _ else _)=_
    rw[if_pos rfl]
   rw[ec]at cx
   have Iy:(T.bind (.ite (zi ([61]:zd) ([60]:zd)) (T.bind (strings_HasPrefix r ([61]:zd)) λr=>.ret (r,(zE,zE))) (.ret (false,(zE,zE))):T (Bool×AM.Expr×AM.Expr)) λ(x,v,v1) =>
     .ite x
      (.zx (wW (1:Int) ((r.length:Nat):Int) (List.length r)) <|
       .ret (([60,61]:zd),((qz (1:Int) ((r.length:Nat):Int) r),(v,v1))))
      (.ret (([61]:zd),(r,(v,v1)))):T ((zd×zd×AM.Expr×AM.Expr))).run=some (([61]:zd),(r,(zE,zE))):=by
    have hq:(.ite (zi ([61]:zd) ([60]:zd)) (T.bind (strings_HasPrefix r ([61]:zd)) λr=>.ret (r,(zE,zE))) (.ret (false,(zE,zE))):T (Bool×AM.Expr×AM.Expr)).run=some (false,(zE,zE)):=by
     rw[z8 (by rfl),z7]
    rw[z6 hq]
    dsimp only
    rw[zf,z7]
   refine(z6 Iy _).trans ?_
   exact fin 0 r (by rw[cx]; simp) (by omega) (.inl rfl)
theorem byte_at{s:zd}{k:Nat}(h:k<s.length):zt s (k:Int)=((s[k].toNat:Nat):Int):=by
 unfold zt
 grind
theorem bc(b c:UInt8):(((b.toNat:Nat):Int)==((c.toNat:Nat):Int))=decide (b=c):=by
 rw[Bool.eq_iff_iff,beq_iff_eq,decide_eq_true_eq]
 constructor
 ·intro h; exact UInt8.toNat_inj.1 (by omega)
 ·grind
theorem G5(c:UInt8):∀ (l cur r:zd),(∀ b∈l,b≠c)->xP c cur (l++r)=xP c (cur++l) r
 | [],cur,r,_=>by rw[List.append_nil]; rfl
 | b::l,cur,r,h=>by
  show(if b=c then _ else xP c (cur++[b]) (l++r))=_
  rw[if_neg (h b List.mem_cons_self),G5 c l _ r (λx hx=>h x (List.mem_cons_of_mem _ hx)),List.append_assoc]
  rfl
theorem E7(s:zd)(at_:Int)(xs:List zd)(hs:s.length<=1000000):∀ (m j:Nat),j+m=s.length->∃ n,j+n<=s.length/\(∀ b∈(s.drop j).take n,b≠32)/\(j+n=s.length\/∃ r,s.drop (j+n)=32::r)/\(Z3 s at_ ((j:Int),xs)).run=some (((j+n:Nat):Int),xs):=by
 intro m
 induction m with
 | zero =>
  intro j hj
  refine⟨0,by omega,(λb h=>by rw[List.take_zero]at h; cases h),.inl (by omega),?_⟩
  refine zL ?_
  unfold yQ
  dsimp only
  rw[zb (λh=>by have:=of_decide_eq_true h; exact⟨by omega,by omega⟩),z8 (by rw[decide_eq_false (by omega)]; rfl),zl,T.zg,z7]
  rfl
 | succ m ih =>
  intro j hj
  have h1:j<s.length:=by omega
  have hd:=List.drop_eq_getElem_cons h1
  have hb:((((s[j].toNat:Nat):Int)) != (32:Int)) = !decide (s[j]=32):=by
   have:=bc s[j] 32
   grind
  by_cases c:s[j]=32
  ·refine⟨0,by omega,(λb h=>by rw[List.take_zero]at h; cases h),.inr ⟨s.drop (j+1),by rw[Nat.add_zero,hd,c]⟩,?_⟩
   refine zL ?_
   unfold yQ
   rw[zb (λ_=>zG h1),byte_at h1,hb,decide_eq_true c,z8 (by rw[Bool.not_true,Bool.and_false]),zl,T.zg,z7]
   rfl
  ·obtain⟨n,g1,g2,g3,g4⟩:=ih (j+1) (by omega)
   refine⟨n+1,by omega,λb hx => ?_,by rw[show j+(n+1)=j+1+n by omega]; exact g3,?_⟩
   ·grind
   ·rw[show j+(n+1)=j+1+n by omega]
    refine(qu (s':=(((j+1:Nat):Int),xs)) ?_).trans g4
    unfold yQ
    rw[zb (λ_=>zG h1),byte_at h1,hb,decide_eq_false c,za (by rw[vQ h1]; rfl),zl,T.zg,z7,eS j _ h1 (by omega)]
theorem mG(s:zd)(hs:s.length<=1000000):(eY s).run=some (xP 32 [] s):=by
 have key:∀ (m k:Nat) (acc:List zd),s.length-k<=m->k<=s.length->acc.length<=k->(lE s ((k:Int),acc)).run=some (acc++xP 32 [] (s.drop k)):=by
  intro m
  induction m with
  | zero =>
   intro k acc hm hk ha
   have:k=s.length:=by omega
   subst this
   rw[List.drop_length]
   refine zL ?_
   unfold jR
   dsimp only
   rw[z8 (oB _),zl,T.zg,z7,show xP 32 [] []=[]from rfl,List.append_nil]
  | succ m ih =>
   intro k acc hm hk ha
   by_cases h1:k<s.length
   ·have hd:=List.drop_eq_getElem_cons h1
    have hb:((((s[k].toNat:Nat):Int))==(32:Int))=decide (s[k]=32):=bc s[k] 32
    by_cases c:s[k]=32
    ·have e:xP 32 [] (s.drop k)=xP 32 [] (s.drop (k+1)):=by
      rw[hd,c]
      rfl
     rw[e]
     refine(qu (s':=(((k+1:Nat):Int),acc)) ?_).trans (ih (k+1) acc (by omega) (by omega) (by omega))
     unfold jR
     dsimp only
     rw[za (vQ h1),zb (zG h1),byte_at h1,hb,decide_eq_true c,zk,zl,T.zg,z7,eS k _ h1 (by omega)]
    ·obtain⟨n,g1,g2,g3,g4⟩:=E7 s (k:Int) acc hs (s.length-k) k (by omega)
     have hn:1<=n:=by
      grind
     have hw:qz (k:Int) ((k+n:Nat):Int) s=(s.drop k).take n:=by rw[vP,List.drop_take,show k+n-k=n by omega]
     have e:xP 32 [] (s.drop k)=(s.drop k).take n::xP 32 [] (s.drop (k+n)):=by
      have mb:s.drop k=(s.drop k).take n++s.drop (k+n):=by rw[<- List.drop_drop,List.take_append_drop]
      have um:(s.drop k).take n≠[]:=λh=>by
       grind
      conv=>lhs; rw[mb]
      rw[G5 32 _ _ _ g2,List.nil_append]
      generalize (s.drop k).take n=W at um ⊢
      rcases g3 with g3 | ⟨r,g3⟩
      ·rw[List.drop_of_length_le (by omega)]
       show(if W=[]then[]else[W])=W::xP 32 [] []
       rw[if_neg um]; rfl
      ·rw[g3]
       show(if(32:UInt8)=32 then(if W=[]then _ else W::xP 32 [] r)else _)=W::(if(32:UInt8)=32 then(if([]:zd)=[]then xP 32 [] r else _)else _)
       rw[if_pos rfl,if_neg um,if_pos rfl,if_pos rfl]
     rw[e]
     refine(qu (s':=(((k+n:Nat):Int),acc++[(s.drop k).take n])) ?_).trans ((ih (k+n) (acc++[(s.drop k).take n]) (by omega) (by omega) (by rw[List.length_append,List.length_singleton]; omega)).trans (by rw[List.append_assoc]; rfl))
     unfold jR
     dsimp only
     rw[za (vQ h1),zb (zG h1),byte_at h1,hb,decide_eq_false c,zf,zl,T.zg,z6 g4]
     dsimp only
     rw[zb (xG.2 ⟨by omega,by omega,by omega⟩),jZ _ rfl rfl rfl (by omega),q8 _ (by simp) rfl (by simp),vD _ (by simp),z7,hw]
   ·have:k=s.length:=by omega
    subst this
    rw[List.drop_length]
    refine zL ?_
    unfold jR
    dsimp only
    rw[z8 (oB _),zl,T.zg,z7,show xP 32 [] []=[]from rfl,List.append_nil]
 have hk:=key s.length 0 [] (by omega) (by omega) (Nat.le_refl _)
 rw[List.drop_zero,List.nil_append]at hk
 have hk:(lE s ((0:Int),([]:List zd))).run=_:=hk
 unfold eY
 rw[zl,T.zg,z6 hk,T.zg,z7,Nat.zero_add,List.take_length,List.drop_zero]
def oX(w:List zd)(n:Nat):zd×Bool:=if w.length=n then([],true)
 else if w.length=n+2/\zi (nth w (n:Int) (zn .str)) [119,104,101,110]=true/\zS (nth w ((n+1:Nat):Int) (zn .str))=true then(nth w ((n+1:Nat):Int) (zn .str),true)else([],false)
theorem WU(w:List zd)(n:Nat)(hn:n<=1000):(kQ w (n:Int)).run=some (oX w n):=by
 have w2:zI ((n:Int)+2)=((n+2:Nat):Int):=by rw[zA (by omega) (by omega)]; omega
 have w1:zI ((n:Int)+1)=((n+1:Nat):Int):=by rw[zA (by omega) (by omega)]; omega
 unfold kQ oX
 rw[w2,w1]
 by_cases c:w.length=n
 ·rw[if_pos c,za (by grind),z7]
 ·rw[if_neg c,z8 (by rw[beq_eq_false_iff_ne]; omega)]
  by_cases c2:w.length=n+2
  ·have hk:(wC w ((n+2:Nat):Int) (n:Int) [119,104,101,110]).run=some (zi (nth w (n:Int) (zn .str)) [119,104,101,110]):=by
    unfold wC
    rw[zb (λ_=>zG (by omega)),z7]
    rw[show(((w.length:Nat):Int)==((n+2:Nat):Int))=true by rw[beq_iff_eq]; omega,Bool.true_and]
   have inner:(T.bind (wC w ((n+2:Nat):Int) (n:Int) [119,104,101,110]) λr =>
     .ite r
      (.zx (q9 ((n+1:Nat):Int) (List.length w)) <|
       T.bind (xD (nth w ((n+1:Nat):Int) (zn .str))) λr1 =>
       .ret r1)
      (.ret false):T (Bool)).run=some (zi (nth w (n:Int) (zn .str)) [119,104,101,110]&&zS (nth w ((n+1:Nat):Int) (zn .str))):=by
    rw[z6 hk]
    cases zi (nth w (n:Int) (zn .str)) [119,104,101,110]with
    | false=>rfl
    | true=>rw[zk,zb (zG (by omega)),z6 (xW _),z7]; rfl
   rw[z6 inner]
   cases q:(zi (nth w (n:Int) (zn .str)) [119,104,101,110]&&zS (nth w ((n+1:Nat):Int) (zn .str)))with
   | false=>rw[if_neg (λh=>by rw[h.2.1,h.2.2]at q; cases q),zf,z7]
   | true=>rw[Bool.and_eq_true]at q; rw[if_pos ⟨c2,q.1,q.2⟩,zk,zb (zG (by omega)),z7]
  ·have hk:(wC w ((n+2:Nat):Int) (n:Int) [119,104,101,110]).run=some false:=by
    have hb:(((w.length:Nat):Int)==((n+2:Nat):Int))=false:=by rw[beq_eq_false_iff_ne]; omega
    unfold wC
    rw[zb (λh=>by rw[hb]at h; cases h),z7,hb,Bool.false_and]
   have inner:(T.bind (wC w ((n+2:Nat):Int) (n:Int) [119,104,101,110]) λr =>
     .ite r
      (.zx (q9 ((n+1:Nat):Int) (List.length w)) <|
       T.bind (xD (nth w ((n+1:Nat):Int) (zn .str))) λr1 =>
       .ret r1)
      (.ret false):T (Bool)).run=some false:=by
    rw[z6 hk,zf,z7]
   rw[z6 inner,if_neg (λh=>c2 h.1),zf,z7]
theorem Vf(w:List zd)(n:Nat)(hn:n<=1000):(jz w (n:Int)).run=some (oX w n):=by
 have w2:zI ((n:Int)+2)=((n+2:Nat):Int):=by rw[zA (by omega) (by omega)]; omega
 have w1:zI ((n:Int)+1)=((n+1:Nat):Int):=by rw[zA (by omega) (by omega)]; omega
 unfold jz oX
 rw[w2,w1]
 by_cases c:w.length=n
 ·rw[if_pos c,za (by grind),z7]
 ·rw[if_neg c,z8 (by grind)]
  by_cases c2:w.length=n+2
  ·have inner:(.ite ((Nat.cast (List.length w):Int)==((n+2:Nat):Int))
      (.zx (q9 (n:Int) (List.length w)) <|
       .ite (zi (nth w (n:Int) (zn .str)) ([119,104,101,110]:zd))
        (.zx (q9 ((n+1:Nat):Int) (List.length w)) <|
         T.bind (xk (nth w ((n+1:Nat):Int) (zn .str))) λr =>
         .ret r)
        (.ret false))
      (.ret false):T (Bool)).run=some (zi (nth w (n:Int) (zn .str)) [119,104,101,110]&&zS (nth w ((n+1:Nat):Int) (zn .str))):=by
    rw[za (by grind),zb (zG (by omega))]
    cases zi (nth w (n:Int) (zn .str)) [119,104,101,110]with
    | false=>rfl
    | true=>rw[zk,zb (zG (by omega)),z6 (qB _),z7]; rfl
   rw[z6 inner]
   cases q:(zi (nth w (n:Int) (zn .str)) [119,104,101,110]&&zS (nth w ((n+1:Nat):Int) (zn .str)))with
   | false=>rw[if_neg (λh=>by grind),zf,z7]
   | true=>rw[Bool.and_eq_true]at q; rw[if_pos ⟨c2,q.1,q.2⟩,zk,zb (zG (by omega)),z7]
  ·have inner:(.ite ((Nat.cast (List.length w):Int)==((n+2:Nat):Int))
      (.zx (q9 (n:Int) (List.length w)) <|
       .ite (zi (nth w (n:Int) (zn .str)) ([119,104,101,110]:zd))
        (.zx (q9 ((n+1:Nat):Int) (List.length w)) <|
         T.bind (xk (nth w ((n+1:Nat):Int) (zn .str))) λr =>
         .ret r)
        (.ret false))
      (.ret false):T (Bool)).run=some false:=by
    rw[z8 (by grind),z7]
   rw[z6 inner,if_neg (λh=>c2 h.1),zf,z7]
theorem NU{n:Rat}(h:yr n=true):ou n=true/\n.1=false/\cN n=false/\(xC (norm n).1 (nv (norm n).2.1) (nv (norm n).2.2.1) 0 61).2=true:=by
 unfold yr at h
 grind
theorem Yn{n:Rat}(hn:yH n)(h:ou n=true):norm n=n:=(CK n hn.1 hn.2.1).1 h
theorem z1U{d:Nat}{k:Int}{n:Rat}{s:zd}{l:List Expr}(ho:uA d (.mk k n s l)=true) :
  (k=1/\l=[]/\yr n=true/\s=[])\/(k=2/\l=[]/\zS s=true/\wj n=true)\/(k=7/\(∃ a,l=[a]/\uA (d+1) a=true)/\wj n=true/\s=[])\/((k=3\/k=4\/k=5\/k=6)/\(∃ a b,l=[a,b]/\uA (d+1) a=true/\uA (d+1) b=true)/\wj n=true/\s=[]):=by
 obtain⟨hk,hl⟩:=Qg ho
 have ho:(decide (d<32)&&(gP (.mk k n s l)&&y9 (d+1) l))=true:=ho
 simp at ho
 have CR:=ho.2.1
 unfold gP at CR
 rw[Bool.and_eq_true]at CR
 have hb:=CR.2
 rw[show Expr.kind (.mk k n s l)=k from rfl,show Expr.num (.mk k n s l)=n from rfl,show Expr.name (.mk k n s l)=s from rfl]at hb
 have z0w:(l.length:Int)=0->l=[]:=λh=>List.eq_nil_of_length_eq_zero (by omega)
 by_cases h1:k=1
 ·rw[if_pos h1,Bool.and_eq_true,xR,decide_eq_true_eq]at hb
  refine .inl ⟨h1,z0w ?_,hb.1,hb.2⟩
  rw[hk]; unfold pK; rw[if_pos (.inl h1)]
 ·rw[if_neg h1]at hb
  by_cases h2:k=2
  ·rw[if_pos h2,Bool.and_eq_true]at hb
   refine .inr (.inl ⟨h2,z0w ?_,hb.2,hb.1⟩)
   rw[hk]; unfold pK; rw[if_pos (.inr h2)]
  ·rw[if_neg h2,Bool.and_eq_true,xR,decide_eq_true_eq]at hb
   rcases HI hk h1 h2 with⟨h7,a,rfl⟩ | ⟨h36,a,b,rfl⟩
   ·have hl:(uA (d+1) a&&y9 (d+1) [])=true:=hl
    grind
   ·have hl:(uA (d+1) a&&(uA (d+1) b&&y9 (d+1) []))=true:=hl
    grind
theorem DM{n:Rat}(h:wj n=true):norm n=norm qm:=by
 unfold wj at h
 simp at h
 have:nv n.2.1=0:=by rw[h.2.1]; rfl
 unfold norm
 have z:∀ b d,uz b 0 d=(false,[],[1],()):=λb d=>by unfold uz; rw[if_pos (.inl rfl)]
 rw[this,z,show nv qm.2.1=0 from rfl,z]
theorem Ox{e:Expr}(h:Er e=true):uA 0 e=true/\vB e<=256:=by
 unfold Er at h
 grind
theorem Oq{s:zd}{e:Expr}{a:Int}(h:qC s=(e,(a,(0:Int)))):Er e=true:=by
 unfold qC E0 at h
 split at h
 ·rename_i c
  injection h with _ h
  injection h with _ h
  exact absurd h c
 ·split at h
  ·injection h with _ h
   injection h with _ h
   exact absurd h (by decide)
  ·rename_i c
   injection h with h _
   rw[<- h]
   cases q:Er (pc s (iA qm s)).1 with
   | true=>rfl
   | false=>exact absurd (.inr q) c
theorem z7w{n:Rat}(hn:yH n)(h:yr n=true):8*n.2.1.length+8*n.2.2.1.length<=256:=by
 obtain⟨h1,h2,h3,h4⟩:=NU h
 have e:=Yn hn h1
 unfold cN at h3
 grind
theorem Bl{n:Rat}(hn:yH n)(h:wj n=true):8*n.2.1.length+8*n.2.2.1.length<=256:=by
 have h0:=h
 unfold wj at h
 simp at h
 obtain⟨_,h2,h3⟩:=h
 rcases h3 with h3 | h3
 ·grind
 ·have e:=Yn hn h3
  have e2:=DM h0
  rw[e]at e2
  rw[e2]
  decide +kernel
theorem z9q:∀ (m:Nat) (e:Expr) (d:Nat),vB e<=m->uA d e=true->allOk e->szE e<=283*vB e:=by
 intro m
 induction m with
 | zero=>intro e d hm; have:=MK e; omega
 | succ m ih =>
  intro e d hm ho ha
  cases e with | mk k n s l =>
  have hn:=ha.1
  rcases z1U ho with⟨rfl,rfl,h1,rfl⟩ | ⟨rfl,rfl,h1,h2⟩ | ⟨rfl,⟨a,rfl,hoa⟩,h1,rfl⟩ | ⟨hk,⟨a,b,rfl,hoa,hob⟩,h1,rfl⟩
  ·have:=z7w hn h1
   simp only[szE,szEs,vB,List.length_nil]; omega
  ·have:=Bl hn h2
   have:=(Zw h1).1
   simp only[szE,szEs,vB]; omega
  ·have e1:vB (.mk 7 n [] [a])=1+(vB a+0):=rfl
   have:=Bl hn h1
   have:=ih a _ (by omega) hoa ha.2.1
   simp only[szE,szEs,List.length_nil]; omega
  ·have e1:vB (.mk k n [] [a,b])=1+(vB a+(vB b+0)):=rfl
   have:=Bl hn h1
   have:=ih a _ (by omega) hoa ha.2.1
   have:=ih b _ (by omega) hob ha.2.2.1
   simp only[szE,szEs,List.length_nil]; omega
theorem z0p{e:Expr}(h:Er e=true)(ha:allOk e):uS e:=by
 obtain⟨h1,h2⟩:=Ox h
 have:=z9q _ e 0 (Nat.le_refl _) h1 ha
 exact⟨by omega,h2,ha⟩
theorem JK(s:zd):uS (qC s).1:=by
 have hg:=(DI s).1.1
 by_cases h:(qC s).2.2=0
 ·refine z0p (Oq (s:=s) (a:=(qC s).2.1) ?_) hg
  rw[<- h]
 ·have e:(qC s).1=zE:=by
   unfold qC E0 at h ⊢
   grind
  rw[e]
  exact Ls (by decide) Vz.1
def qp(s:zd):Expr×Expr×Int×Int:=match gU s with
 | none=>(zE,(zE,((0:Int),(2:Int))))
 | some (l,c,r)=>if(qC l).2.2≠0 then(zE,(zE,((0:Int),(qC l).2.2)))else((qC l).1,((qC r).1,(c,(qC r).2.2)))
theorem K4(s:zd)(hs:s.length<=80000):∀ (q a:zd),s=a++q->(∀ b∈a,b≠60/\b≠61)->∃ n,n<=s.length/\(lP s ((a.length:Int),(zE,zE))).run=some ((n:Int),(zE,zE)) /\
  ((n=s.length/\∀ b∈s,b≠60/\b≠61)\/∃ (p:zd) (c:UInt8) (r:zd),s=p++c::r/\n=p.length/\(c=60\/c=61)/\∀ b∈p,b≠60/\b≠61)
 | [],a,he,ha=>by
  rw[List.append_nil]at he
  subst he
  refine⟨s.length,Nat.le_refl _,?_,.inl ⟨rfl,ha⟩⟩
  refine zL ?_
  unfold yM
  simp
 | b::q,a,he,ha=>by
  have hl:a.length<s.length:=by rw[he,List.length_append,List.length_cons]; omega
  have hb:s[a.length]=b:=by
   grind
  have q1:((((s[a.length].toNat:Nat):Int)) != (60:Int)) = !decide (b=60):=by
   have:=bc b 60
   grind
  have q2:((((s[a.length].toNat:Nat):Int)) != (61:Int)) = !decide (b=61):=by
   have:=bc b 61
   grind
  by_cases c:b=60\/b=61
  ·refine⟨a.length,by omega,?_,.inr ⟨a,b,q,he,rfl,c,ha⟩⟩
   refine zL ?_
   unfold yM
   dsimp only
   rw[zb (λ_=>⟨zG hl,λ_=>zG hl⟩),byte_at hl,q1,q2,z8,z7]
   grind
  ·have c1:b≠60:=λh=>c (.inl h)
   have c2:b≠61:=λh=>c (.inr h)
   obtain⟨n,g1,g2,g3⟩:=K4 s hs q (a++[b]) (by rw[he]; simp) (λx hx=>by
    rcases List.mem_append.1 hx with hx | hx
    ·grind
    ·rw[List.mem_singleton.1 hx]; exact⟨c1,c2⟩)
   refine⟨n,g1,?_,g3⟩
   refine(qu (s':=(((a++[b]).length:Int),(zE,zE))) ?_).trans g2
   unfold yM
   rw[zb (λ_=>⟨zG hl,λ_=>zG hl⟩),byte_at hl,q1,q2,decide_eq_false c1,decide_eq_false c2,za (by rw[decide_eq_true (by omega)]; rfl),z7,eS a.length _ hl (by omega),List.length_append,List.length_singleton]
theorem zcw:(Expr.mk (0:Int) (false,(([]:List Int),(([]:List Int),()))) ([]:zd) ([]:List AM.Expr))=zE:=rfl
theorem K9(a:zd)(c:UInt8)(r:zd):zt (a++c::r) ((a.length:Nat):Int)=((c.toNat:Nat):Int):=by
 have hl:a.length<(a++c::r).length:=by rw[List.length_append,List.length_cons]; omega
 rw[byte_at hl,List.getElem_append_right (Nat.le_refl _)]
 simp
theorem Hd(s:zd)(hs:s.length<=80000):(cF s).run=some (qp s):=by
 obtain⟨n,g1,g2,g3⟩:=K4 s hs s [] rfl (λx h=>by cases h)
 have g2:(lP s ((0:Int),(zE,zE))).run=some ((n:Int),(zE,zE)):=g2
 unfold cF
 rw[zcw,z6 g2]
 dsimp only
 rcases g3 with⟨rfl,h⟩ | ⟨a,c,r,he,rfl,hc,ha⟩
 ·rw[za (by rw[beq_iff_eq]),z7]
  unfold qp
  rw[Zi h]
 ·have hl:s.length=a.length+(r.length+1):=by rw[he,List.length_append,List.length_cons]
  have hw:zI (((a.length:Nat):Int)+1)=((a.length+1:Nat):Int):=by rw[zA (by omega) (by omega)]; omega
  rw[z8 (by rw[beq_eq_false_iff_ne]; omega),hw,zb ⟨zG (by omega),λ_ h=>zG (by have:=of_decide_eq_true h; omega)⟩,zb (xG.2 ⟨by omega,by omega,by omega⟩)]
  have Xq:qz (0:Int) ((a.length:Nat):Int) s=a:=by rw[he]; exact UG a _
  have hcr:qz ((a.length+1:Nat):Int) ((s.length:Nat):Int) s=r:=by rw[he]; exact Xu a c r
  have Km:zt s ((a.length:Nat):Int)=((c.toNat:Nat):Int):=by rw[he]; exact K9 a c r
  have cx:=Xs (c::r) ha
  rw[<- he]at cx
  have hP:(jr a).run=some ((qC a).1,((qC a).2.1,(qC a).2.2)):=oR a (by omega)
  rw[Xq,Km,z6 hP]
  dsimp only
  have fin:∀ (cm:Int) (k:Nat) (q:zd),gU s=some (a,cm,q)->k<=s.length->s.drop k=q ->
    (T.ite ((qC a).2.2 != (0:Int)) (.ret (zE,(zE,((0:Int),(qC a).2.2)))) (.zx (wW ((k:Nat):Int) ((s.length:Nat):Int) s.length) (T.bind (jr (qz ((k:Nat):Int) ((s.length:Nat):Int) s)) λ(r2,r3,e1)=>.ret ((qC a).1,(r2,(cm,e1))))):T (AM.Expr×AM.Expr×Int×Int)).run=some (qp s):=by
   intro cm k q h1 h2 h3
   unfold qp
   rw[h1]
   dsimp only
   by_cases e:(qC a).2.2≠0
   ·rw[if_pos e,za (by simpa using e),z7]
   ·have Fp:qz ((k:Nat):Int) ((s.length:Nat):Int) s=q:=by rw[vP,List.take_length,h3]
    rw[if_neg e,z8 (by simpa using e),zb (xG.2 ⟨by omega,by omega,by omega⟩),Fp,z6 (oR q (by rw[<- h3,List.length_drop]; omega))]
    rfl
  rcases hc with rfl | rfl
  ·have ec:gU (60::r)=(if[61].isPrefixOf r=true then some ([],2,r.drop 1)else some ([],1,r)):=by
    rfl
   rw[ec]at cx
   rw[show((((60:UInt8).toNat:Nat):Int)==(60:Int))=true from rfl]
   simp only[cond_true,cond_false]
   have BH:s.drop (a.length+1)=r:=by rw[he,show a++60::r=(a++[60])++r by simp,List.drop_left' (by simp)]
   cases r with
   | nil =>
    rw[show(decide (((a.length+1:Nat):Int)<((s.length:Nat):Int)))=false from decide_eq_false (by simp only[List.length_nil]at hl; omega),Bool.false_and]
    simp only[cond_true,cond_false]
    exact fin 1 (a.length+1) [] (by rw[cx]; simp[List.isPrefixOf]) (by omega) BH
   | cons x r =>
    simp only[List.length_cons]at hl
    have h1:a.length+1<s.length:=by omega
    have hx:zt s ((a.length+1:Nat):Int)=((x.toNat:Nat):Int):=by
     have:=K9 (a++[60]) x r
     rw[show(a++[60])++x::r=s by rw[he]; simp,List.length_append,List.length_singleton]at this
     exact this
    have sS:zI (((a.length+1:Nat):Int)+1)=((a.length+2:Nat):Int):=by rw[zA (by omega) (by omega)]; omega
    have hq:((((x.toNat:Nat):Int))==(61:Int))=decide (x=61):=bc x 61
    rw[show(decide (((a.length+1:Nat):Int)<((s.length:Nat):Int)))=true from decide_eq_true (by omega),Bool.true_and,hx,hq,sS]
    by_cases k:x=61
    ·subst k
     rw[decide_eq_true rfl]
     simp only[cond_true,cond_false]
     exact fin 2 (a.length+2) r (by rw[cx]; simp[List.isPrefixOf]) (by omega) (by rw[show a.length+2=a.length+1+1 from rfl,<- List.drop_drop,BH]; rfl)
    ·rw[decide_eq_false k]
     simp only[cond_true,cond_false]
     exact fin 1 (a.length+1) (x::r) (by rw[cx]; simp[List.isPrefixOf,beq_eq_false_iff_ne.2 (λh=>k h.symm)]) (by omega) BH
  ·have ec:gU (61::r)=some ([],0,r):=by
    show(if(61:UInt8)=61 then _ else _)=_
    rw[if_pos rfl]
   rw[ec]at cx
   rw[show((((61:UInt8).toNat:Nat):Int)==(60:Int))=false from rfl]
   simp only[cond_true,cond_false]
   exact fin 0 (a.length+1) r (by rw[cx]; simp) (by omega) (by rw[he,show a++61::r=(a++[61])++r by simp,List.drop_left' (by simp)])
abbrev iv:=List Switch×List Param×List qq×List Field×List qk×List Check
def qI:iv:=([],[],[],[],[],[])
def wd(l:List zd)(k:Nat):zd:=nth l (k:Int) (zn .str)
def VT(l:List zd):Int×iv:=if l.length=3/\zS (wd l 1)=true/\(zi (wd l 2) [111,110]=true\/zi (wd l 2) [111,102,102]=true)
 then(0,[(wd l 1,(zi (wd l 2) [111,110],()))],[],[],[],[],[])else(2,qI)
def XF(s:zd):Option Rat:=if 400<s.length then none else match oy s with | some (n,d)=>some (uz (List.isPrefixOf [45] s) n d) | none=>none
def Ww(l:List zd):Int×iv:=if l.length=3/\zS (wd l 1)=true then(match XF (wd l 2)with | some r=>(0,[],[(wd l 1,(r,()))],[],[],[],[]) | none=>(2,qI))else(2,qI)
def VA(l:List zd):Int×iv:=if 2<=l.length/\zS (wd l 1)=true/\(oX l 2).2=true then(0,[],[],[(wd l 1,((oX l 2).1,()))],[],[],[])else(2,qI)
def dn(w:List zd):Bool:=match w with | x::_=>zi x [109,117,115,116] | []=>false
def cH(w:List zd):Option Int:=match w with
 | []=>some 0
 | [a,[c]]=>if zi a [115,99,97,108,101]=true/\48<=c.toNat/\c.toNat<=57 then some ((c.toNat:Int)-48)else none
 | _=>none
def ur(l:List zd):List zd:=if dn (l.drop 2)=true then l.drop 3 else l.drop 2
def Xr(np:Nat)(l:List zd):Int×iv:=if 2<=l.length/\zS (wd l 1)=true/\np≠0
 then(match cH (ur l)with | some k=>(0,[],[],[],[(wd l 1,((np:Int)-1,(dn (l.drop 2),(k,()))))],[],[]) | none=>(2,qI))else(2,qI)
def oP(s:zd):Int:=PL.ZO (λt=>zi s t) 0 [[114,101,113,117,105,114,101,100],[115,116,114,111,110,103],[109,101,100,105,117,109],[119,101,97,107]]
def Hs(np:Nat)(l:List zd)(rest:zd):Int×iv:=if l.length=2/\zS (wd l 1)=true/\np≠0
 then((qp rest).2.2.2,[],[],[],[],[],[(wd l 1,((np:Int)-1,((qp rest).2.2.1,((qp rest).1,((qp rest).2.1,())))))])else(2,qI)
def V3(l:List zd)(rest:zd):Int×iv:=if 3<=l.length/\0<=oP (wd l 1)/\zS (wd l 2)=true/\(oX l 3).2=true
 then(if(qp rest).2.2.2=0/\(qp rest).2.2.1≠0 then(2,qI)else((qp rest).2.2.2,[],[],[],[],[(wd l 2,(oP (wd l 1),((oX l 3).1,((qp rest).1,((qp rest).2.1,())))))],[]))else(2,qI)
theorem te{n:Nat}(h:0<n):q9 (0:Int) n:=⟨Int.le_refl _,by omega⟩
theorem jv{n:Nat}(h:1<n):q9 (1:Int) n:=⟨by decide,by omega⟩
theorem ZK{n:Nat}(h:2<n):q9 (2:Int) n:=⟨by decide,by omega⟩
theorem H7(l:List zd)(xs:List Switch)(jI:List Param)(xY:List qq)(kW:List Field)(kV:List qk)(kU:List Check)(hx:xs.length<=1000000) :
  (jy l () xs jI xY kW kV kU).run=some (decide ((VT l).1=0),((),(xs++(VT l).2.1,(jI,(xY,(kW,(kV,kU))))))):=by
 unfold jy VT
 by_cases c1:l.length=3
 ·refine(z6 (a:=(!(zS (wd l 1)&&(zi (wd l 2) [111,110]||zi (wd l 2) [111,102,102])),((),(xs,(jI,(xY,(kW,(kV,kU)))))))) ?_ _).trans ?_
  ·rw[z8 (by rw[c1]; rfl),zb (jv (by omega)),z6 (xW _)]
   show(T.ite (!zS (wd l 1)) _ _).run=_
   cases zS (wd l 1)with
   | false=>simp
   | true =>
    rw[z8 (by rfl),zb (ZK (by omega))]
    show(T.ite (!zi (wd l 2) [111,110]) _ _).run=_
    cases zi (wd l 2) [111,110]with
    | true=>simp
    | false=>rw[za (by rfl),zb (ZK (by omega))]; simp only[zl,T.zg,zm,z7]; rfl
  ·dsimp only
   by_cases q:zS (wd l 1)=true/\(zi (wd l 2) [111,110]=true\/zi (wd l 2) [111,102,102]=true)
   ·rw[if_pos ⟨c1,q⟩,z8 (by rw[q.1]; rcases q.2 with h | h<;>simp[h]),zb (jv (by omega)),zb (ZK (by omega)),jZ _ rfl rfl rfl (by omega)]
    simp only[List.length_append,List.length_singleton,zl,T.zg,zm,z7]
    rfl
   ·rw[if_neg (λh=>q h.2),za]
    ·simp only[zl,T.zg,zm,z7]
     show _=some (false,((),(xs++[],_)))
     simp
    ·grind
 ·refine(z6 (a:=(true,((),(xs,(jI,(xY,(kW,(kV,kU)))))))) ?_ _).trans ?_
  ·rw[za (by rw[bne_iff_ne]; omega)]
   simp
  ·dsimp only
   rw[if_neg (λh=>c1 h.1),zk]
   show _=some (false,((),(xs++[],_)))
   simp
theorem Ht(s:zd)(hs:s.length<=1000000000):∃ r e,(gK s).run=some (r,e)/\(match XF s with | some q=>r=q/\e=0 | none=>e≠0):=by
 have h:=tH s hs
 unfold XF
 grind
theorem KE(s:zd)(hs:s.length<=1000000000):∃ r e,(kK s).run=some (r,e)/\(match XF s with | some q=>r=q/\e=0 | none=>2<=e):=by
 have h:=rQ s hs
 unfold XF
 grind
theorem DZ(l:List zd)(xs:List Switch)(jI:List Param)(xY:List qq)(kW:List Field)(kV:List qk)(kU:List Check)(hx:jI.length<=1000000)(hl:∀ s∈l,s.length<=1000000) :
  ∃ Q,(uN l () xs jI xY kW kV kU).run=some (decide ((Ww l).1=0),((),(xs,(jI++Q,(xY,(kW,(kV,kU)))))))/\((Ww l).1=0->Q=(Ww l).2.2.1):=by
 by_cases c1:l.length=3/\zS (wd l 1)=true
 ·obtain⟨r,e,h1,h2⟩:=Ht (wd l 2) (by have:=hl _ (bB (l:=l) (i:=2) (d:=zn .str) (by omega) (by omega)); exact Nat.le_trans this (by omega))
  have h1:(gK (nth l 2 (zn .str))).run=some (r,e):=h1
  refine⟨[(wd l 1,(r,()))],?_,?_⟩
  ·unfold uN
   refine(z6 (a:=(false,((),(xs,(jI,(xY,(kW,(kV,kU)))))))) ?_ _).trans ?_
   ·rw[z8 (by rw[c1.1]; rfl),zb (jv (by omega)),z6 (xW _)]
    simp only[zl,T.zg,zm,z7]
    show some (!zS (wd l 1),_)=_
    grind
   ·dsimp only
    rw[zf,zb (ZK (by omega)),z6 h1]
    dsimp only
    rw[zb (jv (by omega)),jZ _ rfl rfl rfl (by omega)]
    simp only[List.length_append,List.length_singleton,zl,T.zg,zm,z7]
    have:(e==(0:Int))=decide ((Ww l).1=0):=by
     unfold Ww
     grind
    rw[this]
    rfl
  ·intro h0
   unfold Ww at h0 ⊢
   grind
 ·have e2:Ww l=(2,qI):=by unfold Ww; rw[if_neg c1]
  refine⟨[],?_,λh=>by rw[e2]at h; exact absurd h (by decide)⟩
  unfold uN
  rw[e2,List.append_nil]
  refine(z6 (a:=(true,((),(xs,(jI,(xY,(kW,(kV,kU)))))))) ?_ _).trans ?_
  ·by_cases k:l.length=3
   ·have hn:zS (wd l 1)=false:=by
     grind
    rw[z8 (by rw[k]; rfl),zb (jv (by omega)),z6 (xW _)]
    simp only[zl,T.zg,zm,z7]
    show some (!zS (wd l 1),_)=_
    rw[hn]; rfl
   ·rw[za (by rw[bne_iff_ne]; omega)]
    simp only[zl,T.zg,zm,z7]
  ·dsimp only
   rw[zk]
   simp only[zl,T.zg,zm,z7]
   rfl
theorem H6(l:List zd)(xs:List Switch)(jI:List Param)(xY:List qq)(kW:List Field)(kV:List qk)(kU:List Check)(hx:xY.length<=1000000) :
  ∃ Q,(ud l () xs jI xY kW kV kU).run=some (decide ((VA l).1=0),((),(xs,(jI,(xY++Q,(kW,(kV,kU)))))))/\((VA l).1=0->Q=(VA l).2.2.2.1):=by
 by_cases c1:2<=l.length/\zS (wd l 1)=true
 ·have hg:(kQ l (2:Int)).run=some ((oX l 2).1,(oX l 2).2):=WU l 2 (by decide)
  refine⟨[(wd l 1,((oX l 2).1,()))],?_,?_⟩
  ·unfold ud
   refine(z6 (a:=(false,((),(xs,(jI,(xY,(kW,(kV,kU)))))))) ?_ _).trans ?_
   ·rw[z8 (decide_eq_false (by omega)),zb (jv (by omega)),z6 (xW _)]
    simp only[zl,T.zg,zm,z7]
    show some (!zS (wd l 1),_)=_
    grind
   ·dsimp only
    rw[zf,z6 hg]
    dsimp only
    rw[zb (jv (by omega)),jZ _ rfl rfl rfl (by omega)]
    simp only[List.length_append,List.length_singleton,zl,T.zg,zm,z7]
    have:(oX l 2).2=decide ((VA l).1=0):=by
     unfold VA
     grind
    rw[this]
    rfl
  ·intro h0
   unfold VA at h0 ⊢
   grind
 ·have e2:VA l=(2,qI):=by unfold VA; rw[if_neg (λh=>c1 ⟨h.1,h.2.1⟩)]
  refine⟨[],?_,λh=>by rw[e2]at h; exact absurd h (by decide)⟩
  unfold ud
  rw[e2,List.append_nil]
  refine(z6 (a:=(true,((),(xs,(jI,(xY,(kW,(kV,kU)))))))) ?_ _).trans ?_
  ·by_cases k:2<=l.length
   ·have hn:zS (wd l 1)=false:=by
     cases h:zS (wd l 1)with
     | false=>rfl
     | true=>exact absurd ⟨k,h⟩ c1
    rw[z8 (decide_eq_false (by omega)),zb (jv (by omega)),z6 (xW _)]
    simp only[zl,T.zg,zm,z7]
    show some (!zS (wd l 1),_)=_
    rw[hn]; rfl
   ·rw[za (decide_eq_true (by omega))]
    simp only[zl,T.zg,zm,z7]
  ·dsimp only
   rw[zk]
   simp only[zl,T.zg,zm,z7]
   rfl
theorem SS(c k:UInt8):strLt [c] [k]=decide (c.toNat<k.toNat):=by
 show Op.bytesLess [c] [k]=_
 by_cases h:c.toNat<k.toNat
 ·rw[decide_eq_true h]; simp[Op.bytesLess,UInt8.lt_iff_toNat_lt,h]
 ·rw[decide_eq_false h]; simp[Op.bytesLess,UInt8.lt_iff_toNat_lt,h]
theorem sM{e:Ty}(l:List (den e))(k:Nat):wk (e:=e) (k:Int) ((l.length:Nat):Int) l=l.drop k:=by unfold wk; simp
def Kk(w:List zd):Option Int:=match w with
 | [a,[c]]=>if zi a [115,99,97,108,101]=true/\48<=c.toNat/\c.toNat<=57 then some ((c.toNat:Int)-48)else none
 | _=>none
theorem Bs(a:zd)(c:UInt8):Kk [a,[c]]=if zi a [115,99,97,108,101]=true/\48<=c.toNat/\c.toNat<=57 then some ((c.toNat:Int)-48)else none:=rfl
theorem mH:∀ (x:zd) (r:List zd),cH (x::r)=Kk (x::r)
 | _,[]=>rfl
 | _,[[]]=>rfl
 | _,[[_]]=>rfl
 | _,[_::_::_]=>rfl
 | _,[]::_::_=>rfl
 | _,[_]::_::_=>rfl
 | _,(_::_::_)::_::_=>rfl
theorem z4b(l:List zd)(n k:Nat)(s:zd)(h:k<n):(wC l (n:Int) (k:Int) s).run=some (decide (l.length=n)&&zi (wd l k) s):=by
 unfold wC
 rw[zb (λh1=>zG (by grind)),z7]
 have:(((l.length:Nat):Int)==(n:Int))=decide (l.length=n):=by rw[Bool.eq_iff_iff,beq_iff_eq,decide_eq_true_eq]; omega
 rw[this]; rfl
theorem KU(l:List zd)(xs:List Switch)(jI:List Param)(xY:List qq)(kW:List Field)(kV:List qk)(kU:List Check)(hx:kW.length<=1000000)(Iz:xY.length<=1000000) :
  ∃ Q,(uG l () xs jI xY kW kV kU).run=some (decide ((Xr xY.length l).1=0),((),(xs,(jI,(xY,(kW++Q,(kV,kU)))))))/\((Xr xY.length l).1=0->Q=(Xr xY.length l).2.2.2.2.1):=by
 by_cases c1:2<=l.length/\zS (wd l 1)=true/\xY.length≠0
 ·have hw:zI (((xY.length:Nat):Int)-1)=(xY.length:Int)-1:=zA (by omega) (by omega)
  have d2:wk (e:=.str) (2:Int) ((l.length:Nat):Int) l=l.drop 2:=sM (e:=.str) l 2
  have d3:wk (e:=.str) (1:Int) (((l.drop 2).length:Nat):Int) (l.drop 2)=l.drop 3:=by
   rw[show l.drop 3=(l.drop 2).drop 1 by rw[List.drop_drop]]
   exact sM (e:=.str) (l.drop 2) 1
  refine⟨[(wd l 1,((xY.length:Int)-1,(dn (l.drop 2),((Kk (ur l)).getD 0,()))))],?_,?_⟩
  ·unfold uG
   refine(z6 (a:=(false,((),(xs,(jI,(xY,(kW,(kV,kU)))))))) ?_ _).trans ?_
   ·rw[z8 (decide_eq_false (by omega)),zb (jv (by omega)),z6 (xW _)]
    show(T.ite (!zS (wd l 1)) _ _).run=_
    rw[c1.2.1,z8 (by rfl)]
    simp only[zl,T.zg,zm,z7]
    rw[beq_eq_false_iff_ne.2 (by omega)]
   ·dsimp only
    rw[zf,zb (jv (by omega)),zb (xG.2 ⟨by omega,by omega,by omega⟩),d2,hw]
    refine(z6 (a:=(ur l,((),(xs,(jI,(xY,(kW,(kV,(kU,(wd l 1,((xY.length:Int)-1,(dn (l.drop 2),((0:Int),())))))))))))) ) ?_ _).trans ?_
    ·have hm:(decide ((0:Int)<(((l.drop 2).length:Nat):Int))&&zi (nth (l.drop 2) (0:Int) (zn .str)) ([109,117,115,116]:zd))=dn (l.drop 2):=by
      unfold dn
      cases l.drop 2 with
      | nil=>rfl
      | cons x r=>rw[decide_eq_true (by rw[List.length_cons]; omega)]; rfl
     rw[zb (λh=>te (by have:=of_decide_eq_true h; omega)),hm]
     unfold ur
     cases q:dn (l.drop 2)with
     | true =>
      have hp:0<(l.drop 2).length:=by
       grind
      rw[zk,zb (xG.2 ⟨by omega,by omega,by omega⟩),d3]
      simp only[zl,T.zg,zm,z7]
      rfl
     | false =>
      rw[zf]
      simp only[zl,T.zg,zm,z7]
      rfl
    ·dsimp only
     refine(z6 (a:=((match Kk (ur l)with | some _=>[] | none=>ur l),((),(xs,(jI,(xY,(kW,(kV,(kU,(wd l 1,((xY.length:Int)-1,(dn (l.drop 2),((Kk (ur l)).getD 0,())))))))))))) ) ?_ _).trans ?_
     ·refine(z6 (a:=((Kk (ur l)).isSome,((),(xs,(jI,(xY,(kW,(kV,(kU,(wd l 1,((xY.length:Int)-1,(dn (l.drop 2),((0:Int),())))))))))))) ) ?_ _).trans ?_
      ·have hk:(wC (ur l) (2:Int) (0:Int) ([115,99,97,108,101]:zd)).run=some (decide ((ur l).length=2)&&zi (wd (ur l) 0) [115,99,97,108,101]):=z4b (ur l) 2 0 _ (by decide)
       rw[z6 hk]
       generalize ur l=w
       by_cases k:w.length=2/\zi (wd w 0) [115,99,97,108,101]=true
       ·rw[za (by rw[decide_eq_true k.1,k.2]; rfl),zb (jv (by omega))]
        match w,k with
        | [a,[]],k=>rw[z8 (by rfl)]; simp only[zl,T.zg,zm,z7]; rfl
        | [a,x::y::r],k =>
         rw[z8 (by rw[beq_eq_false_iff_ne]; show((List.length (x::y::r):Nat):Int)≠1; rw[List.length_cons,List.length_cons]; omega)]
         simp only[zl,T.zg,zm,z7]; rfl
        | [a,[c]],k =>
         have ha:zi a [115,99,97,108,101]=true:=k.2
         have e1:strLt (nth [a,[c]] (1:Int) (zn .str)) [48]=decide (c.toNat<48):=SS c 48
         have e2:strLt (nth [a,[c]] (1:Int) (zn .str)) [57]=decide (c.toNat<57):=SS c 57
         have e3:zi (nth [a,[c]] (1:Int) (zn .str)) [57]=decide (c.toNat=57):=by
          show zi [c] [57]=_
          rw[xR]
          by_cases h:c=57
          ·subst h; rfl
          ·rw[decide_eq_false (λq=>h (by injection q)),decide_eq_false (show ¬ c.toNat=57 from λq=>h (UInt8.toNat_inj.1 q))]
         rw[za (by rfl),zb (jv (by simp)),e1]
         by_cases g1:c.toNat<48
         ·rw[decide_eq_true g1,z8 (by rfl)]
          simp only[zl,T.zg,zm,z7]
          rw[Bs,if_neg (λh=>by have:=h.2.1; omega)]; rfl
         ·rw[decide_eq_false g1,za (by rfl),zb (jv (by simp)),e2,e3]
          simp only[zl,T.zg,zm,z7]
          rw[Bs]
          grind
       ·have hs:Kk w=none:=by
         unfold Kk
         split
         ·rename_i a c
          rw[if_neg (λh=>k ⟨rfl,h.1⟩)]
         ·rfl
        rw[z8 (by
         by_cases g:w.length=2
         ·grind
         ·rw[decide_eq_false g]; rfl),hs]
        simp only[zl,T.zg,zm,z7]
        rfl
      ·dsimp only
       generalize ur l=w
       cases q:Kk w with
       | none =>
        show(T.ite false _ _).run=_
        rw[zf]
        simp only[zl,T.zg,zm,z7]
        rfl
       | some v =>
        show(T.ite true _ _).run=_
        unfold Kk at q
        split at q
        ·rename_i a c
         split at q
         ·rename_i h
          injection q with q
          have e4:zI (YF (zt (nth [a,[c]] (1:Int) (zn .str)) (0:Int)-48))=v:=by
           show zI (YF ((c.toNat:Int)-48))=v
           have:=h.2.1
           have:=h.2.2
           rw[JZ (by omega) (by omega),zA (by omega) (by omega)]
           exact q
          rw[zk,zb (jv (by simp)),zb (te (by show 0<List.length [c]; simp)),e4]
          simp only[zl,T.zg,zm,z7]
          rfl
         ·cases q
        ·cases q
     ·dsimp only
      rw[jZ _ rfl rfl rfl (by omega)]
      simp only[List.length_append,List.length_singleton,zl,T.zg,zm,z7]
      congr 2
      unfold Xr
      rw[if_pos c1]
      generalize ur l=w
      cases q:Kk w with
      | some v =>
       cases w with
       | nil=>cases q
       | cons x r=>rw[mH,q]; rfl
      | none =>
       cases w with
       | nil=>rfl
       | cons x r =>
        rw[mH,q]
        show(((List.length (x::r):Nat):Int)==0)=decide ((2:Int)=0)
        rw[List.length_cons,beq_eq_false_iff_ne.2 (by omega)]; rfl
  ·intro h0
   unfold Xr at h0 ⊢
   rw[if_pos c1]at h0 ⊢
   generalize ur l=w at h0 ⊢
   cases q:cH w with
   | none=>rw[q]at h0; exact absurd h0 (show ¬ (2:Int)=0 by decide)
   | some v =>
    have:(Kk w).getD 0=v:=by
     cases w with
     | nil=>injection q
     | cons x r=>rw[mH]at q; rw[q]; rfl
    rw[this]
 ·have e2:Xr xY.length l=(2,qI):=by unfold Xr; rw[if_neg c1]
  refine⟨[],?_,λh=>by rw[e2]at h; exact absurd h (by decide)⟩
  unfold uG
  rw[e2,List.append_nil]
  refine(z6 (a:=(true,((),(xs,(jI,(xY,(kW,(kV,kU)))))))) ?_ _).trans ?_
  ·by_cases k:2<=l.length
   ·rw[z8 (decide_eq_false (by omega)),zb (jv (by omega)),z6 (xW _)]
    show(T.ite (!zS (wd l 1)) _ _).run=_
    cases h:zS (wd l 1)with
    | false =>
     rw[za (by rfl)]
     simp only[zl,T.zg,zm,z7]
    | true =>
     rw[z8 (by rfl)]
     simp only[zl,T.zg,zm,z7]
     have:xY.length=0:=Classical.byContradiction λg=>c1 ⟨k,h,g⟩
     rw[this]; rfl
   ·rw[za (decide_eq_true (by omega))]
    simp only[zl,T.zg,zm,z7]
  ·dsimp only
   rw[zk]
   simp only[zl,T.zg,zm,z7]
   rfl
theorem B5:∀ {s:zd} {l:zd} {c:Int} {r:zd},gU s=some (l,c,r)->c=0\/c=1\/c=2
 | [],_,_,_,h=>by cases h
 | b::s,l,c,r,h=>by
  unfold gU at h
  split at h
  ·grind
  ·split at h
   ·grind
   ·split at h
    ·rename_i q
     injection h with h; injection h with _ h; injection h with h _
     rw[<- h]
     exact B5 q
    ·cases h
theorem NN(s:zd):(yt [60,61] s).2.2.2=(qp s).2.2.2/\((qp s).2.2.2=0->(yt [60,61] s).1=(qp s).1/\(yt [60,61] s).2.1=(qp s).2.1/\PL.ZO (λt=>zi (yt [60,61] s).2.2.1 t) 0 [[61],[60],[60,61]]=(qp s).2.2.1):=by
 unfold yt qp
 cases h:gU s with
 | none=>simp
 | some p =>
  obtain⟨l,c,r⟩:=p
  dsimp only
  have hc:=B5 h
  have hk:(0:Int)<=dZ [60,61] (cC c):=by rcases hc with rfl | rfl | rfl<;>decide
  by_cases e:(qC l).2.2≠0
  ·grind
  ·rw[if_neg e,if_neg e]
   refine⟨if_neg (λh=>h.2 hk),λ_=>⟨rfl,rfl,?_⟩⟩
   show PL.ZO (λt=>zi (cC c) t) 0 [[61],[60],[60,61]]=c
   rcases hc with rfl | rfl | rfl<;>decide
theorem z09(s:zd):(yt [61] s).2.2.2=(if(qp s).2.2.2=0/\(qp s).2.2.1≠0 then 2 else(qp s).2.2.2)/\((yt [61] s).2.2.2=0->(yt [61] s).1=(qp s).1/\(yt [61] s).2.1=(qp s).2.1):=by
 cases h:gU s with
 | none =>
  have h1:yt [61] s=(zE,(zE,(([]:zd),(2:Int)))):=by unfold yt; rw[h]
  have h2:qp s=(zE,(zE,((0:Int),(2:Int)))):=by unfold qp; rw[h]
  grind
 | some p =>
  obtain⟨l,c,r⟩:=p
  have hc:=B5 h
  have hk:(0:Int)<=dZ [61] (cC c)↔c=0:=by rcases hc with rfl | rfl | rfl<;>decide
  by_cases e:(qC l).2.2≠0
  ·have h1:yt [61] s=((qC l).1,(zE,(([]:zd),(qC l).2.2))):=by unfold yt; rw[h]; exact if_pos e
   have h2:qp s=(zE,(zE,((0:Int),(qC l).2.2))):=by unfold qp; rw[h]; exact if_pos e
   grind
  ·have h1:yt [61] s=((qC l).1,((qC r).1,(cC c,(if(qC r).2.2=0/\¬ (0<=dZ [61] (cC c))then 2 else(qC r).2.2)))):=by unfold yt; rw[h]; exact if_neg e
   have h2:qp s=((qC l).1,((qC r).1,(c,(qC r).2.2))):=by unfold qp; rw[h]; exact if_neg e
   grind
theorem KC(l:List zd)(rest:zd)(xs:List Switch)(jI:List Param)(xY:List qq)(kW:List Field)(kV:List qk)(kU:List Check)(hx:kU.length<=1000000)(Iz:xY.length<=1000000)(hr:rest.length<=80000) :
  ∃ Q,(j4 l rest () xs jI xY kW kV kU).run=some ((Hs xY.length l rest).1,((),(xs,(jI,(xY,(kW,(kV,kU++Q)))))))/\((Hs xY.length l rest).1=0->Q=(Hs xY.length l rest).2.2.2.2.2.2):=by
 by_cases c1:l.length=2/\zS (wd l 1)=true/\xY.length≠0
 ·have hw:zI (((xY.length:Nat):Int)-1)=(xY.length:Int)-1:=zA (by omega) (by omega)
  obtain⟨q1,q2⟩:=NN rest
  have e0:Hs xY.length l rest=((qp rest).2.2.2,[],[],[],[],[],[(wd l 1,((xY.length:Int)-1,((qp rest).2.2.1,((qp rest).1,((qp rest).2.1,())))))]):=by unfold Hs; rw[if_pos c1]
  have hE:(u7 rest [60,61]).run=some ((yt [60,61] rest).1,((yt [60,61] rest).2.1,((yt [60,61] rest).2.2.1,(yt [60,61] rest).2.2.2))):=Qt rest [60,61] hr (by decide)
  refine⟨[(wd l 1,((xY.length:Int)-1,(PL.ZO (λt=>zi (yt [60,61] rest).2.2.1 t) 0 [[61],[60],[60,61]],((yt [60,61] rest).1,((yt [60,61] rest).2.1,())))))],?_,?_⟩
  ·unfold j4
   refine(z6 (a:=(false,((),(xs,(jI,(xY,(kW,(kV,kU)))))))) ?_ _).trans ?_
   ·rw[z8 (by grind),zb (jv (by omega)),z6 (xW _)]
    show(T.ite (!zS (wd l 1)) _ _).run=_
    rw[c1.2.1,z8 (by rfl)]
    simp only[zl,T.zg,zm,z7]
    rw[beq_eq_false_iff_ne.2 (by omega)]
   ·dsimp only
    rw[zf,zb (jv (by omega)),z6 hE]
    rw[show vA=.ret [[61],[60],[60,61]]from rfl,z6 (z7 _),z6 (tM _ _ (by decide)),jZ _ rfl rfl rfl (by omega),hw,gC,gC]
    simp only[List.length_append,List.length_singleton,zl,T.zg,zm,z7]
    rw[e0,q1]
    rfl
  ·grind
 ·have e2:Hs xY.length l rest=(2,qI):=by unfold Hs; rw[if_neg c1]
  refine⟨[],?_,λh=>by rw[e2]at h; exact absurd h (by decide)⟩
  rw[e2,List.append_nil]
  refine(z6 (a:=(true,((),(xs,(jI,(xY,(kW,(kV,kU)))))))) ?_ _).trans ?_
  ·by_cases k:l.length=2
   ·rw[z8 (by rw[k]; rfl),zb (jv (by omega)),z6 (xW _)]
    show(T.ite (!zS (wd l 1)) _ _).run=_
    cases h:zS (wd l 1)with
    | false =>
     simp
    | true =>
     rw[z8 (by rfl)]
     simp only[zl,T.zg,zm,z7]
     grind
   ·rw[za (by rw[bne_iff_ne]; omega)]
    simp
  ·simp
theorem Hj(l:List zd)(rest:zd)(xs:List Switch)(jI:List Param)(xY:List qq)(kW:List Field)(kV:List qk)(kU:List Check)(hx:kV.length<=1000000)(hr:rest.length<=80000) :
  ∃ Q,(vb l rest () xs jI xY kW kV kU).run=some ((V3 l rest).1,((),(xs,(jI,(xY,(kW,(kV++Q,kU)))))))/\((V3 l rest).1=0->Q=(V3 l rest).2.2.2.2.2.1):=by
 have hI:(xd [[114,101,113,117,105,114,101,100],[115,116,114,111,110,103],[109,101,100,105,117,109],[119,101,97,107]] (nth l (1:Int) (zn .str))).run=some (oP (wd l 1)):=tM _ _ (by decide)
 have hC:(wJ [[114,101,113,117,105,114,101,100],[115,116,114,111,110,103],[109,101,100,105,117,109],[119,101,97,107]] (nth l (1:Int) (zn .str))).run=some (decide (0<=oP (wd l 1))):=by
  unfold wJ
  rw[z6 hI,z7]
 have hS:wF=.ret [[114,101,113,117,105,114,101,100],[115,116,114,111,110,103],[109,101,100,105,117,109],[119,101,97,107]]:=rfl
 by_cases c1:3<=l.length/\0<=oP (wd l 1)/\zS (wd l 2)=true
 ·have hg:(kQ l (3:Int)).run=some ((oX l 3).1,(oX l 3).2):=WU l 3 (by decide)
  obtain⟨q1,q2⟩:=z09 rest
  have hE:(u7 rest [61]).run=some ((yt [61] rest).1,((yt [61] rest).2.1,((yt [61] rest).2.2.1,(yt [61] rest).2.2.2))):=Qt rest [61] hr (by decide)
  by_cases c2:(oX l 3).2=true
  ·refine⟨[(wd l 2,(oP (wd l 1),((oX l 3).1,((yt [61] rest).1,((yt [61] rest).2.1,())))))],?_,?_⟩
   ·unfold vb
    refine(z6 (a:=(false,((),(xs,(jI,(xY,(kW,(kV,kU)))))))) ?_ _).trans ?_
    ·rw[z8 (decide_eq_false (by omega)),hS,z6 (z7 _),zb (jv (by omega)),z6 hC,z8 (by rw[decide_eq_true c1.2.1]; rfl),zb (ZK (by omega)),z6 (xW _)]
     simp only[zl,T.zg,zm,z7]
     show some (!zS (wd l 2),_)=_
     grind
    ·dsimp only
     rw[zf,z6 hg]
     dsimp only
     rw[c2,z8 (by rfl),zb (ZK (by omega)),hS,z6 (z7 _),zb (jv (by omega)),z6 hI,z6 hE]
     dsimp only
     rw[jZ _ rfl rfl rfl (by omega),gC,gC]
     simp only[List.length_append,List.length_singleton,zl,T.zg,zm,z7]
     have:(yt [61] rest).2.2.2=(V3 l rest).1:=by
      unfold V3
      grind
     rw[this]
     rfl
   ·intro h0
    unfold V3 at h0 ⊢
    grind
  ·have e2:V3 l rest=(2,qI):=by unfold V3; rw[if_neg (λh=>c2 h.2.2.2)]
   refine⟨[],?_,λh=>by rw[e2]at h; exact absurd h (by decide)⟩
   unfold vb
   rw[e2,List.append_nil]
   refine(z6 (a:=(false,((),(xs,(jI,(xY,(kW,(kV,kU)))))))) ?_ _).trans ?_
   ·rw[z8 (decide_eq_false (by omega)),hS,z6 (z7 _),zb (jv (by omega)),z6 hC,z8 (by rw[decide_eq_true c1.2.1]; rfl),zb (ZK (by omega)),z6 (xW _)]
    simp only[zl,T.zg,zm,z7]
    show some (!zS (wd l 2),_)=_
    grind
   ·dsimp only
    rw[zf,z6 hg]
    dsimp only
    rw[za (by cases h:(oX l 3).2 with | false=>rfl | true=>exact absurd h c2)]
    simp
 ·have e2:V3 l rest=(2,qI):=by unfold V3; rw[if_neg (λh=>c1 ⟨h.1,h.2.1,h.2.2.1⟩)]
  refine⟨[],?_,λh=>by rw[e2]at h; exact absurd h (by decide)⟩
  unfold vb
  rw[e2,List.append_nil]
  refine(z6 (a:=(true,((),(xs,(jI,(xY,(kW,(kV,kU)))))))) ?_ _).trans ?_
  ·by_cases k:3<=l.length
   ·rw[z8 (decide_eq_false (by omega)),hS,z6 (z7 _),zb (jv (by omega)),z6 hC]
    by_cases k2:0<=oP (wd l 1)
    ·rw[z8 (by rw[decide_eq_true k2]; rfl),zb (ZK (by omega)),z6 (xW _)]
     simp only[zl,T.zg,zm,z7]
     show some (!zS (wd l 2),_)=_
     cases h:zS (wd l 2)with
     | false=>rfl
     | true=>exact absurd ⟨k,k2,h⟩ c1
    ·rw[za (by rw[decide_eq_false k2]; rfl)]
     simp only[zl,T.zg,zm,z7]
   ·rw[za (decide_eq_true (by omega))]
    simp only[zl,T.zg,zm,z7]
  ·dsimp only
   rw[zk]
   simp only[zl,T.zg,zm,z7]
def tI(w:zd):Bool:=match w with | b::_=>decide (b=35) | []=>false
def o9(np:Nat)(l:List zd)(rest:zd)(colon:Bool):Int×iv:=match l with
 | []=>if colon=true then(2,qI)else(0,qI)
 | w::_=>if tI w=true then(0,qI)else
   if colon=true then(if zi w [99,104,101,99,107]=true then Hs np l rest else if zi w [114,117,108,101]=true then V3 l rest else(2,qI))
   else if zi w [115,119,105,116,99,104]=true then VT l else if zi w [112,97,114,97,109]=true then Ww l
   else if zi w [112,97,103,101]=true then VA l else if zi w [102,105,101,108,100]=true then Xr np l else(2,qI)
theorem ug(np:Nat)(w:zd)(r:List zd)(rest:zd)(colon:Bool):o9 np (w::r) rest colon=if tI w=true then(0,qI)else
   if colon=true then(if zi w [99,104,101,99,107]=true then Hs np (w::r) rest else if zi w [114,117,108,101]=true then V3 (w::r) rest else(2,qI))
   else if zi w [115,119,105,116,99,104]=true then VT (w::r)else if zi w [112,97,114,97,109]=true then Ww (w::r)
   else if zi w [112,97,103,101]=true then VA (w::r)else if zi w [102,105,101,108,100]=true then Xr np (w::r)else(2,qI):=rfl
def xL(np:Nat)(line:zd):Int×iv:=o9 np (xP 32 [] (wR line [58]).1) (wR line [58]).2.1 (wR line [58]).2.2
theorem sx(c:UInt8):∀ (s cur:zd),∀ w∈xP c cur s,w≠[]/\w.length<=cur.length+s.length
 | [],cur,w,h=>by
  unfold xP at h
  grind
 | b::r,cur,w,h=>by
  unfold xP at h
  split at h
  ·split at h
   ·have:=sx c r [] w h
    grind
   ·rename_i hc
    rcases List.mem_cons.1 h with rfl | h
    ·grind
    ·have:=sx c r [] w h
     grind
  ·have:=sx c r (cur++[b]) w h
   grind
structure SmS(xs:List Switch)(jI:List Param)(xY:List qq)(kW:List Field)(kV:List qk)(kU:List Check):Prop where
 l0:xs.length<=1000000
 l1:jI.length<=1000000
 l2:xY.length<=1000000
 l3:kW.length<=1000000
 l4:kV.length<=1000000
 l5:kU.length<=1000000
def hH(xs:List Switch)(jI:List Param)(xY:List qq)(kW:List Field)(kV:List qk)(kU:List Check)(D:iv):List Switch×List Param×List qq×List Field×List qk×List Check :=
 (xs++D.1,(jI++D.2.1,(xY++D.2.2.1,(kW++D.2.2.2.1,(kV++D.2.2.2.2.1,kU++D.2.2.2.2.2)))))
theorem kh(xs:List Switch)(jI:List Param)(xY:List qq)(kW:List Field)(kV:List qk)(kU:List Check):hH xs jI xY kW kV kU qI=(xs,(jI,(xY,(kW,(kV,kU))))):=by
 unfold hH qI
 simp
theorem PM(line:zd)(hl:line.length<=80000)(xs:List Switch)(jI:List Param)(xY:List qq)(kW:List Field)(kV:List qk)(kU:List Check)(h:SmS xs jI xY kW kV kU) :
  ∃ D,(en line () xs jI xY kW kV kU).run=some ((xL xY.length line).1,((),hH xs jI xY kW kV kU D))/\((xL xY.length line).1=0->D=(xL xY.length line).2):=by
 obtain⟨h0,h1,h2,h3,h4,h5⟩:=h
 have hC:(strings_Cut line [58]).run=some ((wR line [58]).1,((wR line [58]).2.1,(wR line [58]).2.2)):=by
  unfold strings_Cut
  rw[zb (by omega),z7]
 have hlen:=NG line 58
 unfold en xL
 rw[z6 hC]
 dsimp only
 rw[z6 (NV _ (by omega))]
 have hm:=sx 32 (wR line [58]).1 []
 generalize xP 32 [] (wR line [58]).1=l at hm ⊢
 obtain⟨_,hr⟩:=hlen
 generalize (wR line [58]).2.1=rest at hr ⊢
 generalize (wR line [58]).2.2=colon
 cases l with
 | nil =>
  refine⟨qI,?_,?_⟩
  ·rw[zb ⟨(λ_ _ h=>by simp at h),(λh=>by simp at h)⟩,kh]
   cases colon with
   | false =>
    rw[za (by rfl)]
    simp only[zl,T.zg,zm,z7]
    rfl
   | true =>
    rw[z8 (by rfl),za (by rfl),za (by rfl)]
    simp only[zl,T.zg,zm,z7]
    rfl
  ·intro h
   cases colon with
   | false=>rfl
   | true=>rfl
 | cons w r =>
  obtain⟨m1,m2⟩:=hm w List.mem_cons_self
  cases w with
  | nil=>grind
  | cons b q =>
  have hL:(((((b::q)::r).length:Nat):Int)==(0:Int))=false:=by rw[List.length_cons,beq_eq_false_iff_ne]; omega
  have hP:decide ((0:Int)<((((b::q)::r).length:Nat):Int))=true:=by rw[List.length_cons]; exact decide_eq_true (by omega)
  have I7:q9 (0:Int) ((b::q)::r).length:=te (by simp)
  have h0w:q9 (0:Int) (nth ((b::q)::r) (0:Int) (zn .str)).length:=te (by show 0<(b::q).length; simp)
  have hb:(zt (nth ((b::q)::r) (0:Int) (zn .str)) (0:Int)==(35:Int))=decide (b=35):=bc b 35
  have hw:nth ((b::q)::r) (0:Int) (zn .str)=b::q:=rfl
  rw[zb ⟨λ_ _ _=>⟨I7,h0w⟩,λ_ _=>⟨I7,h0w⟩⟩,hL,hb,hP]
  simp only[cond_false,Bool.true_and]
  by_cases c:b=35
  ·have e:o9 xY.length ((b::q)::r) rest colon=(0,qI):=if_pos (decide_eq_true c)
   rw[e]
   refine⟨qI,?_,λ_=>rfl⟩
   rw[za (decide_eq_true c),kh]
   simp
  ·rw[z8 (decide_eq_false c),zf,zb (λ_=>I7),hw]
   have hn:¬ (tI (b::q)=true):=λh=>c (of_decide_eq_true h)
   cases colon with
   | true =>
    by_cases k1:zi (b::q) [99,104,101,99,107]=true
    ·have e:o9 xY.length ((b::q)::r) rest true=Hs xY.length ((b::q)::r) rest:=by
      rw[ug,if_neg hn,if_pos rfl,if_pos k1]
     obtain⟨Q,g1,g2⟩:=KC ((b::q)::r) rest xs jI xY kW kV kU h5 h2 (by omega)
     rw[e]
     refine⟨([],[],[],[],[],Q),?_,λh => ?_⟩
     ·rw[za (by rw[k1]; rfl)]
      simp only[zl,T.zg,zm]
      rw[z6 g1]
      dsimp only
      simp only[zl,T.zg,zm,z7]
      unfold hH
      simp
     ·rw[g2 h]
      unfold Hs at h ⊢
      split at h
      ·rename_i d; rw[if_pos d]
      ·exact absurd h (by decide)
    ·by_cases k2:zi (b::q) [114,117,108,101]=true
     ·have e:o9 xY.length ((b::q)::r) rest true=V3 ((b::q)::r) rest:=by
       rw[ug,if_neg hn,if_pos rfl,if_neg k1,if_pos k2]
      obtain⟨Q,g1,g2⟩:=Hj ((b::q)::r) rest xs jI xY kW kV kU h4 (by omega)
      rw[e]
      refine⟨([],[],[],[],Q,[]),?_,λh => ?_⟩
      ·rw[z8 (by rw[Bool.eq_false_iff.2 k1]; rfl),zb (λ_=>I7),za (by rw[k2]; rfl)]
       simp only[zl,T.zg,zm]
       rw[z6 g1]
       dsimp only
       simp only[zl,T.zg,zm,z7]
       unfold hH
       simp only[List.append_nil]
      ·rw[g2 h]
       unfold V3 at h ⊢
       split at h
       ·rename_i d
        rw[if_pos d]
        split at h
        ·exact absurd h (by decide)
        ·rename_i d2; rw[if_neg d2]
       ·exact absurd h (by decide)
     ·have e:o9 xY.length ((b::q)::r) rest true=(2,qI):=by
       rw[ug,if_neg hn,if_pos rfl,if_neg k1,if_neg k2]
      rw[e]
      refine⟨qI,?_,λ_=>rfl⟩
      rw[z8 (by rw[Bool.eq_false_iff.2 k1]; rfl),zb (λ_=>I7),z8 (by rw[Bool.eq_false_iff.2 k2]; rfl),zk,za (by rfl),kh]
      simp only[zl,T.zg,zm,z7]
   | false =>
    have fin:∀ (v:Int),v=0\/v=2->∀ (ys:List Switch) (ys1:List Param) (ys2:List qq) (ys3:List Field) (ys4:List qk) (ys5:List Check),(T.ite (!decide (v=0)) (.ret ((2:Int),((),(ys,(ys1,(ys2,(ys3,(ys4,ys5)))))))) (.ret ((0:Int),((),(ys,(ys1,(ys2,(ys3,(ys4,ys5)))))))):T (Int×Unit×List Switch×List Param×List qq×List Field×List qk×List Check)).run=some (v,((),(ys,(ys1,(ys2,(ys3,(ys4,ys5))))))):=by
     intro v hv ys ys1 ys2 ys3 ys4 ys5
     rcases hv with rfl | rfl<;>rfl
    rw[z8 (by rfl),zb (λh=>by cases h),z8 (by rfl),zf,zb I7]
    by_cases k1:zi (b::q) [115,119,105,116,99,104]=true
    ·have e:o9 xY.length ((b::q)::r) rest false=VT ((b::q)::r):=by
      rw[ug,if_neg hn,if_neg (by decide),if_pos k1]
     have g1:=H7 ((b::q)::r) xs jI xY kW kV kU h0
     rw[e]
     refine⟨((VT ((b::q)::r)).2.1,[],[],[],[],[]),?_,λh => ?_⟩
     ·rw[za k1]
      simp only[zl,T.zg,zm]
      rw[z6 g1]
      dsimp only
      unfold hH
      simp only[List.append_nil]
      have:(VT ((b::q)::r)).1=0\/(VT ((b::q)::r)).1=2:=by unfold VT; split; exact .inl rfl; exact .inr rfl
      rcases this with h | h<;>rw[h]
      ·rw[z8 (by rfl)]; simp only[zl,T.zg,zm,z7]
      ·rw[za (by rfl)]; simp only[zl,T.zg,zm,z7]
     ·unfold VT at h ⊢
      split at h
      ·rename_i d; rw[if_pos d]
      ·exact absurd h (by decide)
    ·by_cases k2:zi (b::q) [112,97,114,97,109]=true
     ·have e:o9 xY.length ((b::q)::r) rest false=Ww ((b::q)::r):=by
       rw[ug,if_neg hn,if_neg (by decide),if_neg k1,if_pos k2]
      obtain⟨Q,g1,g2⟩:=DZ ((b::q)::r) xs jI xY kW kV kU h1 (λs hs=>by have:=(hm s hs).2; simp only[List.length_nil]at this; omega)
      rw[e]
      refine⟨([],Q,[],[],[],[]),?_,λh => ?_⟩
      ·rw[z8 (Bool.eq_false_iff.2 k1),zb I7,za k2]
       simp only[zl,T.zg,zm]
       rw[z6 g1]
       dsimp only
       unfold hH
       simp only[List.append_nil]
       have:(Ww ((b::q)::r)).1=0\/(Ww ((b::q)::r)).1=2:=by unfold Ww; split; split; exact .inl rfl; exact .inr rfl; exact .inr rfl
       rcases this with h | h<;>rw[h]
       ·rw[z8 (by rfl)]; simp only[zl,T.zg,zm,z7]
       ·rw[za (by rfl)]; simp only[zl,T.zg,zm,z7]
      ·rw[g2 h]
       unfold Ww at h ⊢
       split at h
       ·rename_i d
        rw[if_pos d]
        cases hd:XF (wd ((b::q)::r) 2)with
        | none=>rw[hd]at h; exact absurd h (show ¬ (2:Int)=0 by decide)
        | some v=>rfl
       ·exact absurd h (by decide)
     ·by_cases k3:zi (b::q) [112,97,103,101]=true
      ·have e:o9 xY.length ((b::q)::r) rest false=VA ((b::q)::r):=by
        rw[ug,if_neg hn,if_neg (by decide),if_neg k1,if_neg k2,if_pos k3]
       obtain⟨Q,g1,g2⟩:=H6 ((b::q)::r) xs jI xY kW kV kU h2
       rw[e]
       refine⟨([],[],Q,[],[],[]),?_,λh => ?_⟩
       ·rw[z8 (Bool.eq_false_iff.2 k1),zb I7,z8 (Bool.eq_false_iff.2 k2),zb I7,za k3]
        simp only[zl,T.zg,zm]
        rw[z6 g1]
        dsimp only
        unfold hH
        simp only[List.append_nil]
        have:(VA ((b::q)::r)).1=0\/(VA ((b::q)::r)).1=2:=by unfold VA; split; exact .inl rfl; exact .inr rfl
        rcases this with h | h<;>rw[h]
        ·rw[z8 (by rfl)]; simp only[zl,T.zg,zm,z7]
        ·rw[za (by rfl)]; simp only[zl,T.zg,zm,z7]
       ·rw[g2 h]
        unfold VA at h ⊢
        split at h
        ·rename_i d; rw[if_pos d]
        ·exact absurd h (by decide)
      ·by_cases k4:zi (b::q) [102,105,101,108,100]=true
       ·have e:o9 xY.length ((b::q)::r) rest false=Xr xY.length ((b::q)::r):=by
         rw[ug,if_neg hn,if_neg (by decide),if_neg k1,if_neg k2,if_neg k3,if_pos k4]
        obtain⟨Q,g1,g2⟩:=KU ((b::q)::r) xs jI xY kW kV kU h3 h2
        rw[e]
        refine⟨([],[],[],Q,[],[]),?_,λh => ?_⟩
        ·rw[z8 (Bool.eq_false_iff.2 k1),zb I7,z8 (Bool.eq_false_iff.2 k2),zb I7,z8 (Bool.eq_false_iff.2 k3),zb I7,za k4]
         simp only[zl,T.zg,zm]
         rw[z6 g1]
         dsimp only
         unfold hH
         simp only[List.append_nil]
         have:(Xr xY.length ((b::q)::r)).1=0\/(Xr xY.length ((b::q)::r)).1=2:=by unfold Xr; split; split; exact .inl rfl; exact .inr rfl; exact .inr rfl
         rcases this with h | h<;>rw[h]
         ·rw[z8 (by rfl)]; simp only[zl,T.zg,zm,z7]
         ·rw[za (by rfl)]; simp only[zl,T.zg,zm,z7]
        ·rw[g2 h]
         unfold Xr at h ⊢
         split at h
         ·rename_i d
          rw[if_pos d]
          cases hd:cH (ur ((b::q)::r))with
          | none=>rw[hd]at h; exact absurd h (show ¬ (2:Int)=0 by decide)
          | some v=>rfl
         ·exact absurd h (by decide)
       ·have e:o9 xY.length ((b::q)::r) rest false=(2,qI):=by
         rw[ug,if_neg hn,if_neg (by decide),if_neg k1,if_neg k2,if_neg k3,if_neg k4]
        rw[e]
        refine⟨qI,?_,λ_=>rfl⟩
        rw[z8 (Bool.eq_false_iff.2 k1),zb I7,z8 (Bool.eq_false_iff.2 k2),zb I7,z8 (Bool.eq_false_iff.2 k3),zb I7,z8 (Bool.eq_false_iff.2 k4),za (by rfl),kh]
        simp only[zl,T.zg,zm,z7]
abbrev nL(S D:iv):iv:=hH S.1 S.2.1 S.2.2.1 S.2.2.2.1 S.2.2.2.2.1 S.2.2.2.2.2 D
def qT:List zd->iv->Nat->(Nat×Int)⊕iv
 | [],S,_=>.inr S
 | line::r,S,k=>if(xL S.2.2.1.length line).1=0 then qT r (nL S (xL S.2.2.1.length line).2) (k+1)else .inl (k+1,(xL S.2.2.1.length line).1)
def Jl(S:iv):Form:=(S.1,(S.2.1,(S.2.2.1,(S.2.2.2.1,(S.2.2.2.2.1,(S.2.2.2.2.2,()))))))
def noF:Form:=(([]:List Switch),(([]:List Param),(([]:List qq),(([]:List Field),(([]:List qk),(([]:List Check),()))))))
def yx(s:zd):Form×Int×Int:=if 16384<s.length then(noF,(0,3))else match qT (vf 10 s) qI 0 with
 | .inl (k,e)=>(noF,((k:Int),e))
 | .inr S=>if Xh (Jl S)=true then(Jl S,(0,0))else(noF,(0,2))
structure GS(S:iv):Prop where
 s:∀ x∈S.1,x.1.length<=600
 p:∀ x∈S.2.1,x.1.length<=600/\vM 100 x.2.1
 g:∀ x∈S.2.2.1,x.1.length<=600/\x.2.1.length<=600
 d:∀ x∈S.2.2.2.1,x.1.length<=600
 r:∀ x∈S.2.2.2.2.1,x.1.length<=600/\x.2.2.1.length<=600/\uS x.2.2.2.1/\uS x.2.2.2.2.1
 c:∀ x∈S.2.2.2.2.2,x.1.length<=600/\uS x.2.2.2.1/\uS x.2.2.2.2.1
def En(S:iv):Nat:=S.1.length+S.2.1.length+S.2.2.1.length+S.2.2.2.1.length+S.2.2.2.2.1.length+S.2.2.2.2.2.length
theorem z4S:GS qI:=⟨(λ_ h=>by cases h),(λ_ h=>by cases h),(λ_ h=>by cases h),(λ_ h=>by cases h),(λ_ h=>by cases h),(λ_ h=>by cases h)⟩
theorem z8o{S D:iv}(h:GS S)(k:GS D):GS (nL S D) :=
 ⟨λx hx=>(List.mem_append.1 hx).elim (h.s x) (k.s x),λx hx=>(List.mem_append.1 hx).elim (h.p x) (k.p x),λx hx=>(List.mem_append.1 hx).elim (h.g x) (k.g x),
  λx hx=>(List.mem_append.1 hx).elim (h.d x) (k.d x),λx hx=>(List.mem_append.1 hx).elim (h.r x) (k.r x),λx hx=>(List.mem_append.1 hx).elim (h.c x) (k.c x)⟩
theorem Bb(S D:iv):En (nL S D)=En S+En D:=by
 unfold En nL hH
 grind
theorem K0{s:zd}(h:zS s=true):s.length<=600:=by have:=(Zw h).1; omega
theorem Ma(w:List zd)(n:Nat):(oX w n).1.length<=600:=by
 unfold oX
 split
 ·simp
 ·split
  ·rename_i h; exact K0 h.2.2
  ·simp
theorem z4c{s:zd}{r:Rat}(h:XF s=some r):vM 100 r:=by
 have:z0c s=some r:=by
  unfold z0c
  unfold XF at h
  grind
 have h2:=z1Y this
 exact⟨h2.1,h2.2.1,by have:=h2.2.2.1; omega,by have:=h2.2.2.2; omega⟩
theorem Ee(s:zd):uS (qp s).1/\uS (qp s).2.1:=by
 have hz:uS zE:=Ls (by decide) Vz.1
 unfold qp
 split
 ·grind
 ·split
  ·grind
  ·exact⟨JK _,JK _⟩
theorem sg{α:Type}{x y:α}{p:α->Prop}(h:p x)(hy:y∈[x]):p y:=by grind
theorem W8(np:Nat)(line:zd):GS (xL np line).2/\En (xL np line).2<=1:=by
 have hz:GS qI/\En qI<=1:=⟨z4S,by decide⟩
 unfold xL
 generalize xP 32 [] (wR line [58]).1=l
 generalize (wR line [58]).2.1=rest
 generalize (wR line [58]).2.2=colon
 cases l with
 | nil=>cases colon; exact hz; exact hz
 | cons w r =>
  rw[ug]
  split
  ·exact hz
  ·split
   ·split
    ·unfold Hs
     split
     ·rename_i h
      exact⟨⟨(λ_ h=>by cases h),(λ_ h=>by cases h),(λ_ h=>by cases h),(λ_ h=>by cases h),(λ_ h=>by cases h),λy hy=>sg (p:=λx:Check=>x.1.length<=600/\uS x.2.2.2.1/\uS x.2.2.2.2.1) ⟨K0 h.2.1,Ee rest⟩ hy⟩,Nat.le_refl 1⟩
     ·exact hz
    ·split
     ·unfold V3
      split
      ·rename_i h
       split
       ·exact hz
       ·exact⟨⟨(λ_ h=>by cases h),(λ_ h=>by cases h),(λ_ h=>by cases h),(λ_ h=>by cases h),λy hy=>sg (p:=λx:qk=>x.1.length<=600/\x.2.2.1.length<=600/\uS x.2.2.2.1/\uS x.2.2.2.2.1) ⟨K0 h.2.2.1,Ma _ _,Ee rest⟩ hy,(λ_ h=>by cases h)⟩,Nat.le_refl 1⟩
      ·exact hz
     ·exact hz
   ·split
    ·unfold VT
     split
     ·rename_i h
      exact⟨⟨λy hy=>sg (p:=λx:Switch=>x.1.length<=600) (K0 h.2.1) hy,(λ_ h=>by cases h),(λ_ h=>by cases h),(λ_ h=>by cases h),(λ_ h=>by cases h),(λ_ h=>by cases h)⟩,Nat.le_refl 1⟩
     ·exact hz
    ·split
     ·unfold Ww
      split
      ·rename_i h
       cases hd:XF (wd (w::r) 2)with
       | none=>exact hz
       | some v=>exact⟨⟨(λ_ h=>by cases h),λy hy=>sg (p:=λx:Param=>x.1.length<=600/\vM 100 x.2.1) ⟨K0 h.2,z4c hd⟩ hy,(λ_ h=>by cases h),(λ_ h=>by cases h),(λ_ h=>by cases h),(λ_ h=>by cases h)⟩,Nat.le_refl 1⟩
      ·exact hz
     ·split
      ·unfold VA
       split
       ·rename_i h
        exact⟨⟨(λ_ h=>by cases h),(λ_ h=>by cases h),λy hy=>sg (p:=λx:qq=>x.1.length<=600/\x.2.1.length<=600) ⟨K0 h.2.1,Ma _ _⟩ hy,(λ_ h=>by cases h),(λ_ h=>by cases h),(λ_ h=>by cases h)⟩,Nat.le_refl 1⟩
       ·exact hz
      ·split
       ·unfold Xr
        split
        ·rename_i h
         cases hd:cH (ur (w::r))with
         | none=>exact hz
         | some v=>exact⟨⟨(λ_ h=>by cases h),(λ_ h=>by cases h),(λ_ h=>by cases h),λy hy=>sg (p:=λx:Field=>x.1.length<=600) (K0 h.2.1) hy,(λ_ h=>by cases h),(λ_ h=>by cases h)⟩,Nat.le_refl 1⟩
        ·exact hz
       ·exact hz
theorem JL:∀ (ls:List zd) (S:iv) (k:Nat) (S':iv),qT ls S k=.inr S'->GS S->GS S'/\En S'<=En S+ls.length
 | [],S,k,S',h,hg=>by
  injection h with h
  grind
 | line::r,S,k,S',h,hg=>by
  unfold qT at h
  split at h
  ·obtain⟨a1,a2⟩:=W8 S.2.2.1.length line
   have:=JL r _ _ S' h (z8o hg a1)
   rw[Bb]at this
   grind
  ·cases h
theorem HR(c:UInt8):∀ s:zd,(vf c s).length<=s.length+1
 | []=>Nat.le_refl _
 | b::r=>by
  have:=HR c r
  unfold vf
  split
  ·grind
  ·cases h:vf c r with
   | nil=>simp[C8]
   | cons x y=>rw[h]at this; simp only[C8,List.length_cons]at *; omega
theorem Md(c:UInt8):∀ (s:zd),∀ l∈vf c s,l.length<=s.length
 | [],l,h=>by rw[show vf c []=[[]]from rfl]at h; rw[List.mem_singleton.1 h]; exact Nat.le_refl _
 | b::r,l,h=>by
  have ih:=Md c r
  unfold vf at h
  split at h
  ·grind
  ·cases q:vf c r with
   | nil=>rw[q]at h; rw[List.mem_singleton.1 (show l∈[[b]]from h)]; simp
   | cons x y =>
    rw[q]at h ih
    rcases List.mem_cons.1 (show l∈(b::x)::y from h)with rfl | h
    ·grind
    ·grind
theorem TP{S:iv}(h:En S<=1000000):SmS S.1 S.2.1 S.2.2.1 S.2.2.2.1 S.2.2.2.2.1 S.2.2.2.2.2:=by
 unfold En at h
 exact⟨by omega,by omega,by omega,by omega,by omega,by omega⟩
theorem MP{α:Type}(l:List α):List.drop (0:Nat) (List.take ((0:Nat)+l.length) l)=l:=by simp
def stL(S:iv):List Check×List Check×List qk×List qk×List Switch×List Switch×List Param×List Param×List qq×List qq×List Field×List Field:=([],(S.2.2.2.2.2,([],(S.2.2.2.2.1,([],(S.1,([],(S.2.1,([],(S.2.2.1,([],S.2.2.2.1)))))))))))
theorem dO(s:zd)(hF:∀ S,qT (vf 10 s) qI 0=.inr S->FS (Jl S)):(uQ s).run=some (yx s):=by
 unfold uQ yx
 by_cases hs:16384<s.length
 ·rw[if_pos hs,za (decide_eq_true (by omega)),z7]
  rfl
 ·rw[if_neg hs,z8 (decide_eq_false (by omega))]
  have mb:(strings_Split s [10]).run=some (vf 10 s):=by
   unfold strings_Split
   rw[zb ⟨by omega,rfl⟩,z7]
   rfl
  rw[z6 mb]
  have hln:=HR 10 s
  have hmm:=Md 10 s
  generalize vf 10 s=ls at hln hmm hF ⊢
  have key:∀ (m k:Nat) (S:iv),k+m=ls.length->En S<=k->∃ R,(fG ls (ls.length:Int) ((k:Int),((),((),stL S)))).run=some R /\
    (match qT (ls.drop k) S k with
     | .inl (n,e)=>∃ Z,R=.inr ((n:Int),(e,(noF,Z)))
     | .inr S'=>R=.inl ((),((),stL S'))):=by
   intro m
   induction m with
   | zero =>
    intro k S hk ht
    have:k=ls.length:=by omega
    subst this
    rw[List.drop_length]
    refine⟨.inl ((),((),stL S)),zL ?_,rfl⟩
    unfold kO stL
    simp
   | succ m ih =>
    intro k S hk ht
    have h1:k<ls.length:=by omega
    have hd:=List.drop_eq_getElem_cons h1
    obtain⟨D,g1,g2⟩:=PM ls[k] (by have:=hmm _ (List.getElem_mem h1); omega) S.1 S.2.1 S.2.2.1 S.2.2.2.1 S.2.2.2.2.1 S.2.2.2.2.2 (TP (by omega))
    rw[hd]
    unfold qT
    by_cases c:(xL S.2.2.1.length ls[k]).1=0
    ·rw[if_pos c]
     have hD:=g2 c
     subst hD
     obtain⟨a1,a2⟩:=W8 S.2.2.1.length ls[k]
     obtain⟨R,r1,r2⟩:=ih (k+1) (nL S (xL S.2.2.1.length ls[k]).2) (by omega) (by rw[Bb]; omega)
     refine⟨R,?_,r2⟩
     refine(qu (s':=(((k+1:Nat):Int),((),((),stL (nL S (xL S.2.2.1.length ls[k]).2))))) ?_).trans r1
     unfold kO stL
     dsimp only
     rw[za (vQ h1),zb (zG h1),bV h1]
     simp only[zl,T.zg,zm]
     rw[z6 g1,c]
     unfold hH
     dsimp only
     rw[z8 (by rfl)]
     simp only[zl,T.zg,zm,z7]
     rw[eS k _ h1 (by omega)]
     rfl
    ·rw[if_neg c]
     refine⟨.inr (((k+1:Nat):Int),((xL S.2.2.1.length ls[k]).1,(noF,((),stL (nL S D))))),zL ?_,_,rfl⟩
     ·unfold kO stL
      dsimp only
      rw[za (vQ h1),zb (zG h1),bV h1]
      simp only[zl,T.zg,zm]
      rw[z6 g1]
      unfold hH
      dsimp only
      rw[za (by simpa using c)]
      simp only[zl,T.zg,zm,z7]
      rw[eS k _ h1 (by omega)]
      rfl
  obtain⟨R,r1,r2⟩:=key ls.length 0 qI (by omega) (Nat.le_refl _)
  rw[List.drop_zero]at r2
  have r1:(fG ls (ls.length:Int) ((0:Int),((),((),(([]:List Check),(([]:List Check),(([]:List qk),(([]:List qk),(([]:List Switch),(([]:List Switch),(([]:List Param),(([]:List Param),(([]:List qq),(([]:List qq),(([]:List Field),([]:List Field)))))))))))))))).run=some R:=r1
  simp only[zl,T.zg,zm]
  rw[z6 r1]
  cases q:qT ls qI 0 with
  | inl p =>
   obtain⟨n,e⟩:=p
   rw[q]at r2
   obtain⟨Z,rfl⟩:=r2
   rfl
  | inr S =>
   rw[q]at r2
   dsimp only at r2
   rw[r2,Sum.elim_inl]
   unfold stL
   dsimp only
   simp only[MP,zl,T.zg,zm]
   have hI:(mK (S.1,(S.2.1,(S.2.2.1,(S.2.2.2.1,(S.2.2.2.2.1,(S.2.2.2.2.2,()))))))).run=some (Xh (Jl S)):=Qi (Jl S) (hF S q)
   rw[z6 hI]
   cases Xh (Jl S)with
   | false=>rw[za (by rfl),z7]; rfl
   | true =>
    rw[z8 (by rfl)]
    simp only[zl,T.zg,zm,z7]
    rfl
theorem Lu{p:UInt8->Bool}{s:zd}(h:s.all p=true)(c:UInt8)(hc:p c=false):c ∉ s:=by grind
theorem sH{s:zd}(h:zS s=true):(58:UInt8) ∉ s:=Lu (Zw h).2 58 (by decide)
theorem Nc{c:UInt8}(h1:wH c=false)(h2:c≠46)(h3:c≠47){t:zd}{p:Nat×Nat}(h:Wa t=some p):c ∉ t:=by
 intro hm
 rw[<- List.takeWhile_append_dropWhile (p:=wH) (l:=t)]at hm
 rcases List.mem_append.1 hm with hm | hm
 ·have pR:(t.takeWhile wH).all wH=true:=List.all_takeWhile
  grind
 ·unfold Wa at h
  split at h
  ·cases h
  ·split at h
   ·grind
   ·rename_i b q hq
    rw[hq]at hm
    split at h
    ·cases h
    ·rename_i hd
     have hdq:qZ q=true:=by
      grind
     rcases List.mem_cons.1 hm with rfl | hm
     ·grind
     ·exact Lu hdq c h1 hm
theorem z2z{c:UInt8}(h1:wH c=false)(h2:c≠46)(h3:c≠47)(h4:c≠45){s:zd}{p:Nat×Nat}(h:oy s=some p):c ∉ s:=by
 unfold oy ga at h
 intro hm
 split at h
 ·rename_i hp
  cases s with
  | nil=>cases hm
  | cons b r =>
   rcases List.mem_cons.1 hm with e | hm
   ·grind
   ·exact Nc h1 h2 h3 h hm
 ·exact Nc h1 h2 h3 h hm
theorem z4i{c:UInt8}(h1:wH c=false)(h2:c≠46)(h3:c≠47)(h4:c≠45){s:zd}{r:Rat}(h:XF s=some r):c ∉ s:=by
 unfold XF at h
 split at h
 ·cases h
 ·cases q:oy s with
  | none=>grind
  | some p=>exact z2z h1 h2 h3 h4 q
theorem dQ{x k:zd}(h:zi x k=true){c:UInt8}(hk:c ∉ k):c ∉ x:=by
 rw[xR,decide_eq_true_eq]at h
 grind
theorem X0(c:UInt8)(hc:c≠32):∀ (s cur:zd),c∈cur\/c∈s->∃ x∈xP 32 cur s,c∈x
 | [],cur,h=>by
  rcases h with h | h
  ·unfold xP
   grind
  ·cases h
 | b::r,cur,h=>by
  unfold xP
  by_cases hb:b=32
  ·rw[if_pos hb]
   have h:c∈cur\/c∈r:=h.elim .inl λh=>(List.mem_cons.1 h).elim (λe=>absurd (e.trans hb) hc) .inr
   by_cases e:cur=[]
   ·rw[if_pos e]
    refine X0 c hc r [] (.inr (h.elim (λh => ?_) id))
    grind
   ·rw[if_neg e]
    rcases h with h | h
    ·grind
    ·obtain⟨x,h1,h2⟩:=X0 c hc r [] (.inr h)
     grind
  ·rw[if_neg hb]
   refine X0 c hc r (cur++[b]) (h.elim (λh=>.inl (List.mem_append_left _ h)) λh=>(List.mem_cons.1 h).elim (λe=>.inl (by grind)) .inr)
theorem Yi:∀ (s cur:zd),cur≠[]->∃ z w,xP 32 cur s=(cur++z)::w
 | [],cur,h=>⟨[],[],by unfold xP; rw[if_neg h,List.append_nil]⟩
 | b::r,cur,h=>by
  unfold xP
  by_cases hb:b=32
  ·rw[if_pos hb,if_neg h]
   simp
  ·rw[if_neg hb]
   obtain⟨z,w,e⟩:=Yi r (cur++[b]) (by simp)
   grind
theorem B8(r:zd):∀ (h cur:zd),∃ x w,xP 32 cur (h++58::r)=x::w/\((xP 32 cur h=[]/\∃ z,x=58::z)\/∃ a l,xP 32 cur h=a::l/\(x=a\/(l=[]/\∃ z,x=a++58::z)))
 | [],cur=>by
  obtain⟨z,w,e⟩:=Yi r (cur++[58]) (by simp)
  refine⟨(cur++[58])++z,w,?_,?_⟩
  ·show xP 32 cur (58::r)=_
   rw[<- e]
   rfl
  ·unfold xP
   grind
 | b::h,cur=>by
  show ∃ x w,xP 32 cur (b::(h++58::r))=_/\_
  unfold xP
  by_cases hb:b=32
  ·rw[if_pos hb,if_pos hb]
   by_cases c:cur=[]
   ·rw[if_pos c,if_pos c]
    exact B8 r h []
   ·rw[if_neg c,if_neg c]
    grind
  ·rw[if_neg hb,if_neg hb]
   exact B8 r h (cur++[b])
theorem zaO{w:List zd}(h0:(VT w).1=0)(h:zi (wd w 0) [115,119,105,116,99,104]=true):∀ x∈w,(58:UInt8) ∉ x:=by
 unfold VT at h0
 split at h0
 ·rename_i c
  obtain⟨c1,c2,c3⟩:=c
  match w,c1 with
  | [a,b,d],_ =>
   intro x hx
   simp at hx
   rcases hx with rfl | rfl | rfl
   ·exact dQ h (by decide)
   ·exact sH c2
   ·rcases c3 with c3 | c3
    ·exact dQ c3 (by decide)
    ·exact dQ c3 (by decide)
 ·grind
theorem zaG{w:List zd}(h0:(Ww w).1=0)(h:zi (wd w 0) [112,97,114,97,109]=true):∀ x∈w,(58:UInt8) ∉ x:=by
 unfold Ww at h0
 split at h0
 ·rename_i c
  obtain⟨c1,c2⟩:=c
  match w,c1 with
  | [a,b,d],_ =>
   cases hd:XF (wd [a,b,d] 2)with
   | none=>grind
   | some v =>
    intro x hx
    simp at hx
    rcases hx with rfl | rfl | rfl
    ·exact dQ h (by decide)
    ·exact sH c2
    ·exact z4i (by decide) (by decide) (by decide) (by decide) hd
 ·grind
theorem zcl{w:List zd}(h0:(VA w).1=0)(h:zi (wd w 0) [112,97,103,101]=true):∀ x∈w,(58:UInt8) ∉ x:=by
 unfold VA at h0
 split at h0
 ·rename_i c
  obtain⟨c1,c2,c3⟩:=c
  unfold oX at c3
  split at c3
  ·rename_i d
   match w,d with
   | [a,b],_ =>
    intro x hx
    simp at hx
    rcases hx with rfl | rfl
    ·exact dQ h (by decide)
    ·exact sH c2
  ·split at c3
   ·rename_i d
    obtain⟨d1,d2,d3⟩:=d
    match w,d1 with
    | [a,b,e,f],_ =>
     intro x hx
     simp at hx
     rcases hx with rfl | rfl | rfl | rfl
     ·exact dQ h (by decide)
     ·exact sH c2
     ·exact dQ (x:=x) d2 (by decide)
     ·exact sH d3
   ·cases c3
 ·grind
theorem Ta{w:List zd}{k:Int}(h:cH w=some k):∀ x∈w,(58:UInt8) ∉ x:=by
 unfold cH at h
 split at h
 ·simp
 ·rename_i a c
  split at h
  ·rename_i d
   intro x hx
   simp at hx
   rcases hx with rfl | rfl
   ·exact dQ d.1 (by decide)
   ·intro hm
    have:=List.mem_singleton.1 hm
    subst this
    grind
  ·cases h
 ·cases h
theorem zcY{np:Nat}{w:List zd}(h0:(Xr np w).1=0)(h:zi (wd w 0) [102,105,101,108,100]=true):∀ x∈w,(58:UInt8) ∉ x:=by
 unfold Xr at h0
 split at h0
 ·rename_i c
  obtain⟨c1,c2,c3⟩:=c
  cases hd:cH (ur w)with
  | none=>grind
  | some v =>
   have hs:=Ta hd
   match w,c1 with
   | a::b::t,_ =>
    intro x hx
    rcases List.mem_cons.1 hx with rfl | hx
    ·exact dQ h (by decide)
    ·rcases List.mem_cons.1 hx with rfl | hx
     ·exact sH c2
     ·unfold ur at hs
      cases t with
      | nil=>cases hx
      | cons y t =>
       cases q:dn (y::t)with
       | true =>
        rcases List.mem_cons.1 hx with rfl | hx
        ·exact dQ (show zi x [109,117,115,116]=true from q) (by decide)
        ·grind
       | false =>
        grind
 ·grind
theorem PG(w:List zd):(VT w).1≠0->VT w=(2,qI):=by unfold VT; split; exact λh=>absurd rfl h; exact λ_=>rfl
theorem z6p(w:List zd):(Ww w).1≠0->Ww w=(2,qI):=by
 unfold Ww; split
 ·grind
 ·simp
theorem z6s(w:List zd):(VA w).1≠0->VA w=(2,qI):=by unfold VA; split; exact λh=>absurd rfl h; exact λ_=>rfl
theorem S5(np:Nat)(w:List zd):(Xr np w).1≠0->Xr np w=(2,qI):=by
 unfold Xr; split
 ·grind
 ·simp
def J2(np:Nat)(s:zd):Int×iv:=if(wR s [58]).2.2=true then(if zi (wd (xP 32 [] (wR s [58]).1) 0) [99,104,101,99,107]=true then Hs np (xP 32 [] (wR s [58]).1) (wR s [58]).2.1
  else if zi (wd (xP 32 [] (wR s [58]).1) 0) [114,117,108,101]=true then V3 (xP 32 [] (wR s [58]).1) (wR s [58]).2.1 else(2,qI))else(2,qI)
def KA(np:Nat)(s:zd)(w:List zd):Int×iv:=if zi (wd w 0) [115,119,105,116,99,104]=true then VT w else if zi (wd w 0) [112,97,114,97,109]=true then Ww w
 else if zi (wd w 0) [112,97,103,101]=true then VA w else if zi (wd w 0) [102,105,101,108,100]=true then Xr np w
 else if zi (wd w 0) [99,104,101,99,107]=true\/zi (wd w 0) [114,117,108,101]=true then J2 np s else(2,qI)
theorem SE(np:Nat)(a:zd)(rest:zd):Hs np [a] rest=(2,qI):=by rfl
theorem RU(a:zd)(rest:zd):V3 [a] rest=(2,qI):=by rfl
theorem W0(np:Nat)(s:zd)(h:xP 32 [] s=[]):xL np s=(0,qI):=by
 have h58:(58:UInt8) ∉ s:=λhm=>by
  obtain⟨x,hx,_⟩:=X0 58 (by decide) s [] (.inr hm)
  grind
 unfold xL
 rw[kC 58 s h58,h]
 rfl
theorem YP(np:Nat)(s:zd)(x:zd)(w:List zd):KA np s (x::w)=if zi x [115,119,105,116,99,104]=true then VT (x::w)else if zi x [112,97,114,97,109]=true then Ww (x::w)
 else if zi x [112,97,103,101]=true then VA (x::w)else if zi x [102,105,101,108,100]=true then Xr np (x::w)
 else if zi x [99,104,101,99,107]=true\/zi x [114,117,108,101]=true then J2 np s else(2,qI):=rfl
theorem Ce(np:Nat)(s:zd)(x:zd)(w:List zd)(h:(58:UInt8)∈x):KA np s (x::w)=(2,qI):=by
 rw[YP,if_neg (λk=>dQ k (by decide) h),if_neg (λk=>dQ k (by decide) h),if_neg (λk=>dQ k (by decide) h),if_neg (λk=>dQ k (by decide) h),
  if_neg (λk=>k.elim (λk=>dQ k (by decide) h) (λk=>dQ k (by decide) h))]
theorem bZ{x a b:zd}(h:zi x a=true)(Y8:a≠b):¬ (zi x b=true):=λk=>by
 rw[xR,decide_eq_true_eq]at h k
 grind
theorem Ch(np:Nat)(s:zd)(x:zd)(w:List zd)(h:xP 32 [] s=x::w):xL np s=if tI x=true then(0,qI)else KA np s (x::w):=by
 by_cases h58:(58:UInt8)∈s
 ·obtain⟨a,b,rfl,ha⟩:=List.eq_append_cons_of_mem h58
  have cx:=dt 58 a b ha
  have hl:xL np (a++58::b)=o9 np (xP 32 [] a) b true:=by unfold xL; rw[cx]
  obtain⟨x',w',e,hc⟩:=B8 b a []
  rw[h]at e
  injection e with e1 e2
  subst e1 e2
  obtain⟨y,hy,EF⟩:=X0 58 (by decide) (a++58::b) [] (.inr (by simp))
  rw[h]at hy
  rw[hl]
  rcases hc with⟨c1,z,rfl⟩ | ⟨a0,l,c1,c2⟩
  ·rw[c1,if_neg (show ¬ (tI (58::z)=true) by simp[tI]),Ce _ _ _ _ (by simp)]
   rfl
  ·have um:a0≠[]:=(sx 32 a [] a0 (by rw[c1]; exact List.mem_cons_self)).1
   rw[c1,ug,if_pos rfl]
   rcases c2 with rfl | ⟨rfl,z,rfl⟩
   ·split
    ·rfl
    ·rw[YP]
     by_cases k1:zi x [115,119,105,116,99,104]=true
     ·rw[if_pos k1,if_neg (bZ k1 (by decide)),if_neg (bZ k1 (by decide)),PG (x::w) λh0=>zaO (w:=x::w) h0 k1 y hy EF]
     ·rw[if_neg k1]
      by_cases k2:zi x [112,97,114,97,109]=true
      ·rw[if_pos k2,if_neg (bZ k2 (by decide)),if_neg (bZ k2 (by decide)),z6p (x::w) λh0=>zaG (w:=x::w) h0 k2 y hy EF]
      ·rw[if_neg k2]
       by_cases k3:zi x [112,97,103,101]=true
       ·rw[if_pos k3,if_neg (bZ k3 (by decide)),if_neg (bZ k3 (by decide)),z6s (x::w) λh0=>zcl (w:=x::w) h0 k3 y hy EF]
       ·rw[if_neg k3]
        by_cases k4:zi x [102,105,101,108,100]=true
        ·rw[if_pos k4,if_neg (bZ k4 (by decide)),if_neg (bZ k4 (by decide)),S5 np (x::w) λh0=>zcY (w:=x::w) h0 k4 y hy EF]
        ·rw[if_neg k4]
         unfold J2
         rw[cx]
         dsimp only
         rw[if_pos rfl,c1]
         show _=if zi x _=true\/_ then(if zi x _=true then _ else if zi x _=true then _ else _)else _
         grind
   ·have hh:tI (a0++58::z)=tI a0:=by
     cases a0 with
     | nil=>rfl
     | cons=>rfl
    rw[hh,Ce _ _ _ _ (by simp),SE,RU]
    simp
 ·unfold xL KA J2
  rw[kC 58 s h58]
  rw[h,ug,if_neg (show ¬ (false=true) by decide),if_neg (show ¬ (false=true) by decide)]
  split
  ·rfl
  ·show _=(if zi x _=true then _ else if zi x _=true then _ else if zi x _=true then _ else if zi x _=true then _ else _)
   simp
theorem YI(s:zd)(hs:s.length<=1000000)(c:UInt8):∀ (q a:zd),s=a++q->c ∉ a->(nA s ((c.toNat:Nat):Int) (a.length:Int)).run=some (if c∈s then .inr ((wR s [c]).1.length:Int)else .inl ())
 | [],a,he,ha=>by
  rw[List.append_nil]at he
  subst he
  rw[if_neg ha]
  refine zL ?_
  unfold bG
  simp
 | b::q,a,he,ha=>by
  have hl:a.length<s.length:=by rw[he,List.length_append,List.length_cons]; omega
  have hb:zt s (a.length:Int)=((b.toNat:Nat):Int):=by rw[he]; exact K9 a b q
  by_cases k:b=c
  ·subst k
   rw[if_pos (by grind)]
   have hc:=dt b a q ha
   rw[<- he]at hc
   rw[hc]
   refine zL ?_
   unfold bG
   rw[za (vQ hl),zb (zG hl),hb,za (by simp),z7]
  ·have ha2:c ∉ a++[b]:=λh=>(List.mem_append.1 h).elim ha λh=>k (List.mem_singleton.1 h).symm
   refine(qu (s':=((a++[b]).length:Int)) ?_).trans (YI s hs c q (a++[b]) (by grind) ha2)
   unfold bG
   rw[za (vQ hl),zb (zG hl),hb,bc,decide_eq_false k,zf,z7,eS a.length _ hl (by omega),List.length_append,List.length_singleton]
theorem RR(s:zd)(hs:s.length<=1000000)(c:UInt8):(mB s ((c.toNat:Nat):Int)).run=some (if c∈s then((wR s [c]).1.length:Int)else -1):=by
 have:=YI s hs c s [] rfl (λh=>by cases h)
 have:(nA s ((c.toNat:Nat):Int) 0).run=_:=this
 unfold mB
 rw[z6 this]
 split<;>rfl
theorem o5(s:zd):(uR s).run=some (oP s):=by
 have step:∀ (n:Nat),n<4->(y5 s (n:Int)).run=some (if zi (lC (n:Int)) s=true then .inr (.inr (n:Int))else .inl ((n+1:Nat):Int)):=by
  intro n hn
  unfold y5
  rw[za (decide_eq_true (by omega)),z6 (QI _)]
  cases h:zi (lC (n:Int)) s with
  | true=>rfl
  | false =>
   rw[zf,z7,zA (by omega) (by omega)]
   rfl
 have sym:∀ a b:zd,zi a b=zi b a:=λa b=>by
  rw[xR,xR]
  grind
 have key:(mg s 0).run=some (if oP s = -1 then .inl ()else .inr (oP s)):=by
  have e:oP s=if zi (lC 0) s=true then 0 else if zi (lC 1) s=true then 1 else if zi (lC 2) s=true then 2 else if zi (lC 3) s=true then 3 else -1:=by
   rw[sym (lC 0),sym (lC 1),sym (lC 2),sym (lC 3)]
   rfl
  by_cases c0:zi (lC 0) s=true
  ·rw[if_pos c0]at e
   rw[e]
   exact zL ((step 0 (by decide)).trans (congrArg some (if_pos c0)))
  ·rw[if_neg c0]at e
   refine(qu ((step 0 (by decide)).trans (congrArg some (if_neg c0)))).trans ?_
   by_cases c1:zi (lC 1) s=true
   ·rw[if_pos c1]at e
    rw[e]
    exact zL ((step 1 (by decide)).trans (congrArg some (if_pos c1)))
   ·rw[if_neg c1]at e
    refine(qu ((step 1 (by decide)).trans (congrArg some (if_neg c1)))).trans ?_
    by_cases c2:zi (lC 2) s=true
    ·rw[if_pos c2]at e
     rw[e]
     exact zL ((step 2 (by decide)).trans (congrArg some (if_pos c2)))
    ·rw[if_neg c2]at e
     refine(qu ((step 2 (by decide)).trans (congrArg some (if_neg c2)))).trans ?_
     by_cases c3:zi (lC 3) s=true
     ·rw[if_pos c3]at e
      rw[e]
      exact zL ((step 3 (by decide)).trans (congrArg some (if_pos c3)))
     ·rw[if_neg c3]at e
      refine(qu ((step 3 (by decide)).trans (congrArg some (if_neg c3)))).trans ?_
      rw[e]
      refine zL ?_
      rfl
 unfold uR
 rw[z6 key]
 by_cases h:oP s = -1
 ·rw[if_pos h,h]; rfl
 ·rw[if_neg h]; rfl
theorem z3H:∀ l:List zd,(((Nat.cast (List.length l):Int)==(2:Int))&&((zi (nth l (0:Int) (zn .str)) ([115,99,97,108,101]:zd))&&(((Nat.cast (List.length (nth l (1:Int) (zn .str))):Int)==(1:Int))&&((decide ((48:Int)<=(zt (nth l (1:Int) (zn .str)) (0:Int))))&&(decide ((zt (nth l (1:Int) (zn .str)) (0:Int))<=(57:Int)))))))=(Kk l).isSome
 | []=>rfl
 | [_]=>rfl
 | [a,[]]=>by
  show(true&&(zi a [115,99,97,108,101]&&(false&&_)))=false
  simp
 | [a,x::y::r]=>by
  show(_&&(_&&(((((x::y::r):zd).length:Nat):Int)==1&&_)))=false
  grind
 | [a,[c]]=>by
  show(true&&(zi a [115,99,97,108,101]&&(true&&(decide ((48:Int)<=(c.toNat:Int))&&decide ((c.toNat:Int)<=57)))))=_
  rw[Bs,Bool.true_and,Bool.true_and]
  grind
 | _::_::z::r=>by
  rw[List.length_cons,List.length_cons,List.length_cons,beq_eq_false_iff_ne.2 (by omega),Bool.false_and]
  unfold Kk
  simp
theorem z6W{l:List zd}{v:Int}(h:Kk l=some v):l.length=2/\(nth l (1:Int) (zn .str)).length=1/\zI ((zI (zt (nth l (1:Int) (zn .str)) (0:Int)))-(48:Int))=v:=by
 unfold Kk at h
 split at h
 ·rename_i a c
  split at h
  ·rename_i d
   injection h with h
   refine⟨rfl,rfl,?_⟩
   show zI (zI ((c.toNat:Int))-48)=v
   rw[zA (x:=(c.toNat:Int)) (by omega) (by omega),zA (by omega) (by omega)]
   exact h
  ·cases h
 ·cases h
theorem KX(w:List zd)(np:Nat)(hn:np<=1000000):∃ F b,(kP w ((np:Int)-1)).run=some (F,b)/\b=decide ((Xr np w).1=0)/\(b=true->Xr np w=(0,[],[],[],[F],[],[])):=by
 by_cases c1:2<=w.length/\np≠0
 ·have d2:wk (e:=.str) (2:Int) ((w.length:Nat):Int) w=w.drop 2:=sM (e:=.str) w 2
  have d3:wk (e:=.str) (1:Int) (((w.drop 2).length:Nat):Int) (w.drop 2)=w.drop 3:=by
   rw[show w.drop 3=(w.drop 2).drop 1 by rw[List.drop_drop]]
   exact sM (e:=.str) (w.drop 2) 1
  have hm:(decide ((0:Int)<(((w.drop 2).length:Nat):Int))&&zi (nth (w.drop 2) (0:Int) (zn .str)) ([109,117,115,116]:zd))=dn (w.drop 2):=by
   unfold dn
   cases w.drop 2 with
   | nil=>rfl
   | cons x r=>rw[decide_eq_true (by rw[List.length_cons]; omega)]; rfl
  have Pp:Xr np w=(if zS (wd w 1)=true then(match cH (ur w)with | some k=>(0,[],[],[],[(wd w 1,((np:Int)-1,(dn (w.drop 2),(k,()))))],[],[]) | none=>(2,qI))else(2,qI):Int×iv):=by
   unfold Xr
   grind
  refine⟨(wd w 1,((np:Int)-1,(dn (w.drop 2),((Kk (ur w)).getD 0,())))),(cH (ur w)).isSome&&zS (wd w 1),?_,?_,?_⟩
  ·unfold kP
   rw[z8 (by rw[decide_eq_false (by omega),decide_eq_false (by omega)]; rfl),zb (jv (by omega)),zb (xG.2 ⟨by omega,by omega,by omega⟩),d2]
   refine(z6 (a:=(ur w,((([]:zd),((0:Int),(false,((0:Int),())))),(wd w 1,((np:Int)-1,(dn (w.drop 2),((0:Int),()))))))) ?_ _).trans ?_
   ·rw[zb (λh=>te (by have:=of_decide_eq_true h; omega)),hm]
    unfold ur
    cases q:dn (w.drop 2)with
    | true =>
     have hp:0<(w.drop 2).length:=by
      grind
     rw[zk,zb (xG.2 ⟨by omega,by omega,by omega⟩),d3,z7]
     rfl
    | false=>rfl
   ·dsimp only
    clear Pp
    generalize ur w=l
    generalize dn (w.drop 2)=mu
    refine(z6 (a:=((match Kk l with | some _=>[] | none=>l),((([]:zd),((0:Int),(false,((0:Int),())))),(wd w 1,((np:Int)-1,(mu,((Kk l).getD 0,()))))))) ?_ _).trans ?_
    ·rw[zb (λh=>by
      rw[beq_iff_eq]at h
      exact⟨te (by omega),λ_=>⟨jv (by omega),λh2=>by
       rw[beq_iff_eq]at h2
       exact⟨jv (by omega),te (by omega),λ_=>⟨jv (by omega),te (by omega)⟩⟩⟩⟩),z3H]
     cases q:Kk l with
     | none =>
      show(T.ite false _ _).run=_
      rw[zf,z7]
      rfl
     | some v =>
      obtain⟨v1,v2,v3⟩:=z6W q
      show(T.ite true _ _).run=_
      rw[zk,zb (jv (by omega)),zb (te (by omega)),z7,v3]
      rfl
    ·dsimp only
     cases q:Kk l with
     | some v =>
      have:cH l=some v:=by
       cases l with
       | nil=>cases q
       | cons x r=>rw[mH,q]
      rw[this]
      dsimp only
      rw[za (by rfl),z6 (qB _),z7]
      rfl
     | none =>
      cases l with
      | nil =>
       rw[za (by rfl),z6 (qB _),z7]
       rfl
      | cons x r =>
       rw[mH,q]
       dsimp only
       rw[z8 (by rw[List.length_cons,beq_eq_false_iff_ne]; omega),z7]
       rfl
  ·rw[Pp]
   cases zS (wd w 1)with
   | false=>rw[if_neg (by decide),Bool.and_false]; rfl
   | true =>
    rw[if_pos rfl,Bool.and_true]
    cases cH (ur w)with
    | none=>rfl
    | some v=>rfl
  ·intro h
   rw[Bool.and_eq_true]at h
   rw[Pp,if_pos h.2]
   cases q:cH (ur w)with
   | none=>rw[q]at h; cases h.1
   | some v =>
    have:(Kk (ur w)).getD 0=v:=by
     generalize ur w=l at q
     cases l with
     | nil=>injection q
     | cons x r=>rw[mH]at q; rw[q]; rfl
    rw[this]
 ·have e2:Xr np w=(2,qI):=by unfold Xr; rw[if_neg (λh=>c1 ⟨h.1,h.2.2⟩)]
  refine⟨(([]:zd),((0:Int),(false,((0:Int),())))),false,?_,by rw[e2]; rfl,λh=>by cases h⟩
  unfold kP
  rw[za,z7]
  by_cases k:2<=w.length
  ·have:np=0:=Classical.byContradiction λh=>c1 ⟨k,h⟩
   subst this
   rw[decide_eq_true (show((0:Nat):Int)-1<0 by decide),Bool.or_true]
  ·rw[decide_eq_true (by omega)]; rfl
theorem Cd{l:List zd}(h:(oX l 3).2=true):3<=l.length:=by
 unfold oX at h
 grind
theorem OS(s:zd)(hs:s.length<=80000)(xs:List Switch)(jI:List Param)(xY:List qq)(kW:List Field)(kV:List qk)(kU:List Check)(h:SmS xs jI xY kW kV kU) :
  ∃ D,(eB s () xs jI xY kW kV kU).run=some ((J2 xY.length s).1,((),hH xs jI xY kW kV kU D))/\((J2 xY.length s).1=0->D=(J2 xY.length s).2):=by
 obtain⟨h0,h1,h2,h3,h4,h5⟩:=h
 have hf:(mB s (58:Int)).run=_:=RR s (by omega) 58
 unfold eB
 by_cases h58:(58:UInt8)∈s
 ·obtain⟨a,b,he,ha⟩:=List.eq_append_cons_of_mem h58
  have cx:wR s [58]=(a,b,true):=by rw[he]; exact dt 58 a b ha
  have hl:s.length=a.length+(b.length+1):=by rw[he,List.length_append,List.length_cons]
  rw[if_pos h58,cx]at hf
  dsimp only at hf
  have hw:zI (((a.length:Nat):Int)+1)=((a.length+1:Nat):Int):=by rw[zA (by omega) (by omega)]; omega
  have Xq:qz (0:Int) ((a.length:Nat):Int) s=a:=by rw[he]; exact UG a _
  have hcr:qz ((a.length+1:Nat):Int) ((s.length:Nat):Int) s=b:=by rw[he]; exact Xu a 58 b
  have hnp:zI (((xY.length:Nat):Int)-1)=(xY.length:Int)-1:=zA (by omega) (by omega)
  have hS:(cF b).run=some ((qp b).1,((qp b).2.1,((qp b).2.2.1,(qp b).2.2.2))):=Hd b (by omega)
  have z9Z:J2 xY.length s=if zi (wd (xP 32 [] a) 0) [99,104,101,99,107]=true then Hs xY.length (xP 32 [] a) b else if zi (wd (xP 32 [] a) 0) [114,117,108,101]=true then V3 (xP 32 [] a) b else(2,qI):=by
   unfold J2
   grind
  rw[z9Z]
  clear z9Z
  rw[z6 hf,z8 (decide_eq_false (by omega)),zb (xG.2 ⟨by omega,by omega,by omega⟩),Xq,z6 (mG a (by omega))]
  generalize xP 32 [] a=l
  have hG:(jz l (3:Int)).run=some ((oX l 3).1,(oX l 3).2):=Vf l 3 (by decide)
  have inner:∀ (f:(Bool×(Unit)×(List Switch)×(List Param)×(List qq)×(List Field)×(List qk)×(List Check))->T (Int×(Unit)×(List Switch)×(List Param)×(List qq)×(List Field)×(List qk)×(List Check))) (t:T (Bool×(Unit)×(List Switch)×(List Param)×(List qq)×(List Field)×(List qk)×(List Check))) (R:Option (Int×(Unit)×(List Switch)×(List Param)×(List qq)×(List Field)×(List qk)×(List Check))) (v:Bool),
    t.run=some (v,((),(xs,(jI,(xY,(kW,(kV,kU)))))))->(f (v,((),(xs,(jI,(xY,(kW,(kV,kU)))))))).run=R->(T.bind t f).run=R:=λf t R v g1 g2=>(z6 g1 f).trans g2
  have W5:∀ (f:(Bool×(Unit)×(List Switch)×(List Param)×(List qq)×(List Field)×(List qk)×(List Check))->T (Int×(Unit)×(List Switch)×(List Param)×(List qq)×(List Field)×(List qk)×(List Check))) (t:T (Bool×(Unit)×(List Switch)×(List Param)×(List qq)×(List Field)×(List qk)×(List Check))) (v:Bool) (e:Int) (P:iv->Prop),
    t.run=some (v,((),(xs,(jI,(xY,(kW,(kV,kU)))))))->(∃ D,(f (v,((),(xs,(jI,(xY,(kW,(kV,kU)))))))).run=some (e,((),hH xs jI xY kW kV kU D))/\P D)->∃ D,(T.bind t f).run=some (e,((),hH xs jI xY kW kV kU D))/\P D:=λf t v e P g1 ⟨D,g2,g3⟩=>⟨D,(z6 g1 f).trans g2,g3⟩
  by_cases c1:l.length=2/\zi (wd l 0) [99,104,101,99,107]=true/\zS (wd l 1)=true/\xY.length≠0
  ·obtain⟨q1,q2,q3,q4⟩:=c1
   have e0:Hs xY.length l b=((qp b).2.2.2,[],[],[],[],[],[(wd l 1,((xY.length:Int)-1,((qp b).2.2.1,((qp b).1,((qp b).2.1,())))))]):=by unfold Hs; rw[if_pos ⟨q1,q3,q4⟩]
   have q2':zi (nth l (0:Int) (zn .str)) [99,104,101,99,107]=true:=q2
   rw[if_pos q2,e0]
   refine⟨_,inner _ _ _ true ?_ ?_,λ_=>rfl⟩
   ·rw[za (by rw[beq_iff_eq]; omega),zb (te (by omega)),za q2',zb (jv (by omega)),z6 (qB _)]
    show(T.ite (zS (wd l 1)) _ _).run=_
    rw[za q3]
    simp only[zl,T.zg,zm,z7]
    rw[decide_eq_true (by omega)]
   ·dsimp only
    rw[zk,hw,zb (xG.2 ⟨by omega,by omega,by omega⟩),hcr,z6 hS]
    dsimp only
    rw[zb (jv (by omega)),jZ _ rfl rfl rfl (by omega),hnp,gC,gC]
    simp only[List.length_append,List.length_singleton,zl,T.zg,zm,z7]
    unfold hH
    simp only[List.append_nil]
    rfl
  ·have e1:(if zi (wd l 0) [99,104,101,99,107]=true then Hs xY.length l b else if zi (wd l 0) [114,117,108,101]=true then V3 l b else(2,qI))=if zi (wd l 0) [114,117,108,101]=true then V3 l b else(2,qI):=by
    by_cases k:zi (wd l 0) [99,104,101,99,107]=true
    ·rw[if_pos k,if_neg (bZ k (by decide))]
     unfold Hs
     grind
    ·rw[if_neg k]
   rw[e1]
   clear e1
   refine W5 _ _ false _ _ ?_ ?_
   ·by_cases k1:l.length=2
    ·rw[za (by rw[beq_iff_eq]; omega),zb (te (by omega))]
     show(T.ite (zi (wd l 0) _) _ _).run=_
     cases k2:zi (wd l 0) [99,104,101,99,107]with
     | false =>
      rw[zf]
      simp only[zl,T.zg,zm,z7]
     | true =>
      rw[zk,zb (jv (by omega)),z6 (qB _)]
      show(T.ite (zS (wd l 1)) _ _).run=_
      cases k3:zS (wd l 1)with
      | false =>
       rw[zf]
       simp only[zl,T.zg,zm,z7]
      | true =>
       rw[zk]
       simp only[zl,T.zg,zm,z7]
       rw[decide_eq_false (λh=>c1 ⟨k1,k2,k3,by omega⟩)]
    ·rw[z8 (by rw[beq_eq_false_iff_ne]; omega)]
     simp only[zl,T.zg,zm,z7]
   ·dsimp only
    rw[zf,z6 hG]
    dsimp only
    by_cases c2:(oX l 3).2=true/\zi (wd l 0) [114,117,108,101]=true/\0<=oP (wd l 1)/\zS (wd l 2)=true
    ·obtain⟨q1,q2,q3,q4⟩:=c2
     have q0:=Cd q1
     have q2':zi (nth l (0:Int) (zn .str)) [114,117,108,101]=true:=q2
     have e0:V3 l b=(if(qp b).2.2.2=0/\(qp b).2.2.1≠0 then(2,qI)else((qp b).2.2.2,[],[],[],[],[(wd l 2,(oP (wd l 1),((oX l 3).1,((qp b).1,((qp b).2.1,())))))],[])):=by unfold V3; rw[if_pos ⟨q0,q3,q4,q1⟩]
     have hI:(uR (nth l (1:Int) (zn .str))).run=some (oP (wd l 1)):=o5 _
     rw[if_pos q2,e0,q1]
     refine W5 _ _ false _ _ ?_ ?_
     ·rw[z8 (by rfl),zb (te (by omega)),z8 (by rw[q2']; rfl),zb (jv (by omega)),z6 hI,z8 (decide_eq_false (by omega)),zb (ZK (by omega)),z6 (qB _)]
      simp only[zl,T.zg,zm,z7]
      show some (!zS (wd l 2),_)=_
      rw[q4]; rfl
     ·dsimp only
      rw[zf,hw,zb (xG.2 ⟨by omega,by omega,by omega⟩),hcr,z6 hS]
      dsimp only
      by_cases k:(qp b).2.2.2=0/\(qp b).2.2.1≠0
      ·rw[if_pos k,za (by rw[k.1,bne_iff_ne.2 k.2]; rfl)]
       refine⟨qI,?_,λh=>absurd h (by decide)⟩
       simp only[zl,T.zg,zm,z7]
       rw[kh]
      ·rw[if_neg k,z8 (by
        by_cases k1:(qp b).2.2.2=0
        ·have:(qp b).2.2.1=0:=Classical.byContradiction λh=>k ⟨k1,h⟩
         rw[this]; exact Bool.and_false _
        ·rw[beq_eq_false_iff_ne.2 k1]; rfl)]
       refine⟨_,?_,λ_=>rfl⟩
       rw[zb (ZK (by omega)),zb (jv (by omega)),z6 hI,jZ _ rfl rfl rfl (by omega),gC,gC]
       simp only[List.length_append,List.length_singleton,zl,T.zg,zm,z7]
       unfold hH
       simp only[List.append_nil]
       rfl
    ·have e0:(if zi (wd l 0) [114,117,108,101]=true then V3 l b else(2,qI))=(2,qI):=by
      by_cases k:zi (wd l 0) [114,117,108,101]=true
      ·rw[if_pos k]
       unfold V3
       exact if_neg (λg=>c2 ⟨g.2.2.2,k,g.2.1,g.2.2.1⟩)
      ·rw[if_neg k]
     rw[e0]
     refine⟨qI,inner _ _ _ true ?_ ?_,λh=>absurd h (by decide)⟩
     ·cases k1:(oX l 3).2 with
      | false =>
       rw[za (by rfl)]
       simp only[zl,T.zg,zm,z7]
      | true =>
       have q0:=Cd k1
       have hI:(uR (nth l (1:Int) (zn .str))).run=some (oP (wd l 1)):=o5 _
       rw[z8 (by rfl),zb (te (by omega))]
       show(T.ite (!zi (wd l 0) _) _ _).run=_
       cases k2:zi (wd l 0) [114,117,108,101]with
       | false =>
        rw[za (by rfl)]
        simp only[zl,T.zg,zm,z7]
       | true =>
        rw[z8 (by rfl),zb (jv (by omega)),z6 hI]
        by_cases k3:0<=oP (wd l 1)
        ·rw[z8 (decide_eq_false (by omega)),zb (ZK (by omega)),z6 (qB _)]
         simp only[zl,T.zg,zm,z7]
         show some (!zS (wd l 2),_)=_
         cases k4:zS (wd l 2)with
         | false=>rfl
         | true=>exact absurd ⟨k1,k2,k3,k4⟩ c2
        ·rw[za (decide_eq_true (by omega))]
         simp only[zl,T.zg,zm,z7]
     ·dsimp only
      rw[zk]
      simp only[zl,T.zg,zm,z7]
      rw[kh]
 ·have e0:J2 xY.length s=(2,qI):=by
   unfold J2
   rw[kC 58 s h58]
   rfl
  rw[if_neg h58]at hf
  rw[e0]
  refine⟨qI,?_,λh=>absurd h (by decide)⟩
  rw[z6 hf,za (by rfl),kh]
  simp only[zl,T.zg,zm,z7]
theorem T8{l:List zd}(h:(oX l 2).2=true):2<=l.length:=by
 unfold oX at h
 grind
theorem DC(s:zd)(hs:s.length<=80000)(w:List zd)(hw:w≠[])(hm:∀ x∈w,x.length<=1000000)(xs:List Switch)(jI:List Param)(xY:List qq)(kW:List Field)(kV:List qk)(kU:List Check)(h:SmS xs jI xY kW kV kU) :
  ∃ D,(lr s w () xs jI xY kW kV kU).run=some ((KA xY.length s w).1,((),hH xs jI xY kW kV kU D))/\((KA xY.length s w).1=0->D=(KA xY.length s w).2):=by
 obtain⟨h0,h1,h2,h3,h4,h5⟩:=id h
 have hl:0<w.length:=List.length_pos_iff.2 hw
 have W5:∀ (f:(Bool×(Unit)×(List Switch)×(List Param)×(List qq)×(List Field)×(List qk)×(List Check))->T (Int×(Unit)×(List Switch)×(List Param)×(List qq)×(List Field)×(List qk)×(List Check))) (t:T (Bool×(Unit)×(List Switch)×(List Param)×(List qq)×(List Field)×(List qk)×(List Check))) (v:Bool) (e:Int) (P:iv->Prop),
   t.run=some (v,((),(xs,(jI,(xY,(kW,(kV,kU)))))))->(∃ D,(f (v,((),(xs,(jI,(xY,(kW,(kV,kU)))))))).run=some (e,((),hH xs jI xY kW kV kU D))/\P D)->∃ D,(T.bind t f).run=some (e,((),hH xs jI xY kW kV kU D))/\P D:=λf t v e P g1 ⟨D,g2,g3⟩=>⟨D,(z6 g1 f).trans g2,g3⟩
 unfold lr KA
 rw[zb (te hl)]
 show ∃ D,(T.ite (zi (wd w 0) _) _ (T.ite (zi (wd w 0) _) _ (T.ite (zi (wd w 0) _) _ (T.ite (zi (wd w 0) _) _ (T.ite (bif (zi (wd w 0) _)then(zi (wd w 0) _)else(zi (wd w 0) _)) _ _))))).run=_/\_
 by_cases k1:zi (wd w 0) [115,119,105,116,99,104]=true
 ·rw[if_pos k1,za k1]
  refine W5 _ _ (decide ((VT w).1=0)) _ _ ?_ ?_
  ·by_cases c:w.length=3
   ·rw[za (by rw[beq_iff_eq]; omega),zb (jv (by omega)),z6 (qB _)]
    unfold VT
    show(T.ite (zS (wd w 1)) _ _).run=_
    cases q1:zS (wd w 1)with
    | false =>
     simp
    | true =>
     rw[zk,zb (ZK (by omega))]
     show(T.ite (zi (wd w 2) _) _ _).run=_
     cases q2:zi (wd w 2) [111,110]with
     | true =>
      rw[zk,if_pos ⟨c,rfl,.inl rfl⟩]
      simp
     | false =>
      rw[zf,zb (ZK (by omega))]
      simp only[zl,T.zg,zm,z7]
      show some (zi (wd w 2) _,_)=_
      cases q3:zi (wd w 2) [111,102,102]with
      | false=>simp
      | true=>grind
   ·rw[z8 (by rw[beq_eq_false_iff_ne]; omega)]
    unfold VT
    rw[if_neg (λh=>c h.1)]
    simp
  ·dsimp only
   by_cases e:(VT w).1=0
   ·rw[decide_eq_true e,zk]
    unfold VT at e ⊢
    split at e
    ·rename_i c
     rw[if_pos c]
     refine⟨_,?_,λ_=>rfl⟩
     rw[zb (jv (by omega)),zb (ZK (by omega)),jZ _ rfl rfl rfl (by omega)]
     simp only[List.length_append,List.length_singleton,zl,T.zg,zm,z7]
     unfold hH
     simp only[List.append_nil]
     rfl
    ·exact absurd e (by decide)
   ·rw[decide_eq_false e,zf,PG w e]
    refine⟨qI,?_,λh=>absurd h (by decide)⟩
    simp only[zl,T.zg,zm,z7]
    rw[kh]
 ·rw[if_neg k1,z8 (Bool.eq_false_iff.2 k1)]
  by_cases k2:zi (wd w 0) [112,97,114,97,109]=true
  ·rw[if_pos k2,za k2]
   refine W5 _ _ (decide (w.length=3)&&zS (wd w 1)) _ _ ?_ ?_
   ·by_cases c:w.length=3
    ·rw[za (by rw[beq_iff_eq]; omega),zb (jv (by omega)),z6 (qB _),decide_eq_true c,Bool.true_and]
     simp only[zl,T.zg,zm,z7]
     rfl
    ·rw[z8 (by rw[beq_eq_false_iff_ne]; omega),decide_eq_false c]
     simp only[zl,T.zg,zm,z7]
     rfl
   ·dsimp only
    by_cases c:w.length=3/\zS (wd w 1)=true
    ·obtain⟨r,e,g1,g2⟩:=KE (wd w 2) (by have:=hm _ (bB (l:=w) (i:=2) (d:=zn .str) (by omega) (by omega)); exact Nat.le_trans this (by omega))
     have g1:(kK (nth w 2 (zn .str))).run=some (r,e):=g1
     rw[decide_eq_true c.1,c.2,za (by rfl),zb (ZK (by omega)),z6 g1]
     dsimp only
     rw[zb (jv (by omega)),jZ _ rfl rfl rfl (by omega)]
     simp only[List.length_append,List.length_singleton,zl,T.zg,zm,z7]
     unfold Ww
     rw[if_pos c]
     cases hd:XF (wd w 2)with
     | none =>
      rw[hd]at g2
      have g2:2<=e:=g2
      refine⟨([],[(wd w 1,(r,()))],[],[],[],[]),?_,λh=>absurd h (show ¬ (2:Int)=0 by decide)⟩
      rw[show Vj 2 e=2 from by unfold Vj; omega]
      unfold hH
      simp only[List.append_nil]
      rfl
     | some q =>
      rw[hd]at g2
      obtain⟨g2,g3⟩:=g2
      refine⟨_,?_,λ_=>rfl⟩
      rw[g3,g2]
      unfold hH
      simp only[List.append_nil]
      rfl
    ·have e2:Ww w=(2,qI):=by unfold Ww; rw[if_neg c]
     rw[e2,z8 (by
      by_cases c1:w.length=3
      ·rw[decide_eq_true c1,Bool.true_and]
       cases q:zS (wd w 1)with
       | false=>rfl
       | true=>exact absurd ⟨c1,q⟩ c
      ·rw[decide_eq_false c1]; rfl)]
     refine⟨qI,?_,λh=>absurd h (by decide)⟩
     simp only[zl,T.zg,zm,z7]
     rw[kh]
  ·rw[if_neg k2,z8 (Bool.eq_false_iff.2 k2)]
   by_cases k3:zi (wd w 0) [112,97,103,101]=true
   ·have hG:(jz w (2:Int)).run=some ((oX w 2).1,(oX w 2).2):=Vf w 2 (by decide)
    rw[if_pos k3,za k3,z6 hG]
    dsimp only
    refine W5 _ _ ((oX w 2).2&&zS (wd w 1)) _ _ ?_ ?_
    ·cases q:(oX w 2).2 with
     | false =>
      rw[zf]
      simp only[zl,T.zg,zm,z7]
      rfl
     | true =>
      have:=T8 q
      rw[zk,zb (jv (by omega)),z6 (qB _)]
      simp only[zl,T.zg,zm,z7]
      rfl
    ·dsimp only
     unfold VA
     by_cases c:(oX w 2).2=true/\zS (wd w 1)=true
     ·have q0:=T8 c.1
      rw[if_pos ⟨q0,c.2,c.1⟩,c.1,c.2,za (by rfl),zb (jv (by omega)),jZ _ rfl rfl rfl (by omega)]
      refine⟨_,?_,λ_=>rfl⟩
      simp only[List.length_append,List.length_singleton,zl,T.zg,zm,z7]
      unfold hH
      simp only[List.append_nil]
      rfl
     ·rw[if_neg (λh=>c ⟨h.2.2,h.2.1⟩),z8 (by
       cases q:(oX w 2).2 with
       | false=>rfl
       | true =>
        cases q2:zS (wd w 1)with
        | false=>rfl
        | true=>exact absurd ⟨q,q2⟩ c)]
      refine⟨qI,?_,λh=>absurd h (by decide)⟩
      simp only[zl,T.zg,zm,z7]
      rw[kh]
   ·rw[if_neg k3,z8 (Bool.eq_false_iff.2 k3)]
    by_cases k4:zi (wd w 0) [102,105,101,108,100]=true
    ·have hnp:zI (((xY.length:Nat):Int)-1)=(xY.length:Int)-1:=zA (by omega) (by omega)
     obtain⟨F,b,g1,g2,g3⟩:=KX w xY.length h2
     rw[if_pos k4,za k4,hnp,z6 g1]
     dsimp only
     cases b with
     | true =>
      rw[g3 rfl,zk,jZ _ rfl rfl rfl (by omega)]
      refine⟨_,?_,λ_=>rfl⟩
      simp only[List.length_append,List.length_singleton,zl,T.zg,zm,z7]
      unfold hH
      simp only[List.append_nil]
     | false =>
      rw[S5 _ _ (of_decide_eq_false g2.symm),zf]
      refine⟨qI,?_,λh=>absurd h (by decide)⟩
      simp only[zl,T.zg,zm,z7]
      rw[kh]
    ·rw[if_neg k4,z8 (Bool.eq_false_iff.2 k4)]
     by_cases k5:zi (wd w 0) [99,104,101,99,107]=true\/zi (wd w 0) [114,117,108,101]=true
     ·obtain⟨D,g1,g2⟩:=OS s hs xs jI xY kW kV kU h
      rw[if_pos k5,za (by rcases k5 with k | k<;>rw[k]<;>cases zi (wd w 0) [99,104,101,99,107]<;>rfl)]
      refine⟨D,?_,g2⟩
      simp only[zl,T.zg,zm]
      rw[z6 g1]
      unfold hH
      dsimp only
      simp only[zl,T.zg,zm,z7]
     ·rw[if_neg k5,z8 (by
       cases q1:zi (wd w 0) [99,104,101,99,107]with
       | true=>exact absurd (.inl q1) k5
       | false =>
        cases q2:zi (wd w 0) [114,117,108,101]with
        | true=>exact absurd (.inr q2) k5
        | false=>rfl)]
      refine⟨qI,?_,λh=>absurd h (by decide)⟩
      simp only[zl,T.zg,zm,z7]
      rw[kh]
end Go.AM.Lf
