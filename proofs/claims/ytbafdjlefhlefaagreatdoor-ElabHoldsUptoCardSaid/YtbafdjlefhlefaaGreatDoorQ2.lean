/-
  Plain laws of the lifted program, part 2.
-/
import Derived.Test.YtbafdjlefhlefaaGreatDoorLf1
import Derived.Test.YtbafdjlefhlefaaGreatDoorAmA
import Derived.Test.YtbafdjlefhlefaaGreatDoorAmD
import Derived.Test.YtbafdjlefhlefaaGreatDoorQ0
import Derived.Test.YtbafdjlefhlefaaGreatDoorQ1
set_option linter.unusedVariables false
open Go.AM.T (jG ny qK ql xi z6 z7 z8 zD zG zP za zc ze zr zy)
namespace Go.AM.Lf
open PL
theorem oE(a b:zf):zM a b=zM b a:=by
 rw[wx,wx]; exact decide_eq_decide.2 eq_comm
theorem XI{α:Type}(p:α→Bool)(i:Int)(x:α)(r:List α):PL.vu p i (x::r)=if p x=true then i else PL.vu p (i+1) r:=rfl
theorem Oj(s:zf)(v:zB)(h:kv v)(c0:wF):(fa s v ((0:Int),c0)).run=some (if PL.vu (zM s) 0 v.1 = -1 then .inl c0 else .inr ((0:Int),qZ 0 ([(PL.vu (zM s) 0 v.1,1)],0))):=by
 have hl:=h.l1
 have h0:(xW (0:Int)).run=some (qR (0:Q)):=bV 0 ⟨by omega,by omega⟩
 have key:∀ (m k:Nat),k+m=v.1.length→(fa s v ((k:Int),c0)).run=some (if PL.vu (zM s) (k:Int) (v.1.drop k) = -1 then .inl c0 else .inr ((0:Int),qZ 0 ([(PL.vu (zM s) (k:Int) (v.1.drop k),1)],0))):=by
  intro m
  induction m with
  | zero =>
   intro k hk
   have:k=v.1.length:=by omega
   subst this
   rw[List.drop_length]
   refine ql ?_
   unfold bX
   dsimp only
   rw[z8 (xo _),z7]
   rfl
  | succ m ih =>
   intro k hk
   have h1:k<v.1.length:=by omega
   rw[List.drop_eq_getElem_cons h1,XI]
   by_cases c:zM s v.1[k]=true
   ·rw[if_pos c,if_neg (by omega)]
    refine ql ?_
    unfold bX
    dsimp only
    rw[za (qQ h1),zc (zo h1),xh h1,za (by rw[oE]; exact c),z6 DB,z6 h0,z7]
    rfl
   ·rw[if_neg c]
    refine(qK (s':=(((k+1:Nat):Int),c0)) ?_).trans ?_
    ·unfold bX
     dsimp only
     rw[za (qQ h1),zc (zo h1),xh h1,z8 (by rw[oE]; simpa using c),z7,vA k _ h1 (by omega)]
    ·exact ih (k+1) (by omega)
 have:=key v.1.length 0 (by omega)
 rw[List.drop_zero]at this
 exact this
theorem Ou(s:zf)(v:zB)(h:kv v)(c0:wF):(oS s v ((0:Int),c0)).run=some (if PL.vu (zM s) 0 v.2.1 = -1 then .inl c0 else .inr ((0:Int),qZ 0 ([],rP v.2.2.1 (PL.vu (zM s) 0 v.2.1)))):=by
 have hl:=h.l2
 have hl3:=h.l3
 have h0:(xW (0:Int)).run=some (qR (0:Q)):=bV 0 ⟨by omega,by omega⟩
 have key:∀ (m k:Nat),k+m=v.2.1.length→(oS s v ((k:Int),c0)).run=some (if PL.vu (zM s) (k:Int) (v.2.1.drop k) = -1 then .inl c0 else .inr ((0:Int),qZ 0 ([],rP v.2.2.1 (PL.vu (zM s) (k:Int) (v.2.1.drop k))))):=by
  intro m
  induction m with
  | zero =>
   intro k hk
   have:k=v.2.1.length:=by omega
   subst this
   rw[List.drop_length]
   refine ql ?_
   unfold hO
   dsimp only
   rw[z8 (xo _),z7]
   rfl
  | succ m ih =>
   intro k hk
   have h1:k<v.2.1.length:=by omega
   rw[List.drop_eq_getElem_cons h1,XI]
   by_cases c:zM s v.2.1[k]=true
   ·have c':zM v.2.1[k] s=true:=by rw[oE]; exact c
    rw[if_pos c,if_neg (by omega)]
    refine ql ?_
    unfold hO
    dsimp only
    rw[za (qQ h1),zc (zo h1),xh h1,c',Bool.true_and]
    unfold rP
    by_cases c2:k<v.2.2.1.length
    ·have hm:nth v.2.2.1 (k:Int) (zb zt)∈v.2.2.1:=by rw[xh c2]; exact List.getElem_mem c2
     rw[za (qQ c2),zc (zo c2),z6 (xA _ (xM (h.ok _ hm) (by omega))),z7,if_pos (by simpa using c2),xk]
     rfl
    ·rw[z8 (decide_eq_false (by omega)),zc (zo h1),zD,z6 h0,z7,if_neg (by simpa using c2)]
     rfl
   ·have c':zM v.2.1[k] s=false:=by rw[oE]; simpa using c
    rw[if_neg c]
    refine(qK (s':=(((k+1:Nat):Int),c0)) ?_).trans ?_
    ·unfold hO
     dsimp only
     rw[za (qQ h1),zc (zo h1),xh h1,c',Bool.false_and,zr,zc (zo h1),zr,z7,vA k _ h1 (by omega)]
    ·exact ih (k+1) (by omega)
 have:=key v.2.1.length 0 (by omega)
 rw[List.drop_zero]at this
 exact this
theorem ZH{v:zB}(h:kv v)(s:zf):(ni s v).run=some (gC (eQ v s)):=by
 have g0:=Oj s v h zC
 have g1:=Ou s v h zC
 have r0:=IA (zM s) v.1
 have r1:=IA (zM s) v.2.1
 unfold ni eQ
 have g0:(fa s v ((0:Int),((0:Int),(([]:List Term),((false,(([]:List Int),(([]:List Int),()))),()))))).run=_:=g0
 rw[z6 g0]
 by_cases c:PL.vu (zM s) 0 v.1 = -1
 ·rw[if_pos c,if_neg (by omega),Sum.elim_inl,z6 g1]
  by_cases c2:PL.vu (zM s) 0 v.2.1 = -1
  ·rw[if_pos c2,if_pos (by omega)]; rfl
  ·rw[if_neg c2,if_neg (by omega)]; rfl
 ·rw[if_neg c,if_pos (by omega)]; rfl
theorem YI(k:Int)(a b:AC)(hk:k=3∨k=4∨k=5∨k=6)(ha:Vt 400000 a)(hb:Vt 400000 b)(la:a.1.length≤400000)(lb:b.1.length≤400000) :
  (.ite (k==(3:Int)) (T.bind (di (qZ 0 a) (qZ 0 b)) fun r7=>.ret (r7,(0:Int)))
   (.ite (k==(4:Int)) (T.bind (xW (-1:Int)) fun r8=>T.bind (vi (qZ 0 b) r8) fun r9=>T.bind (di (qZ 0 a) r9) fun Ek=>.ret (Ek,(0:Int)))
    (.ite (k==(5:Int)) (T.bind (rG (qZ 0 a) (qZ 0 b)) fun(r11,r12)=>.ret (r11,r12)) (T.bind (rX (qZ 0 a) (qZ 0 b)) fun(r13,r14)=>.ret (r13,r14)))):T (wF×Int)).run=some (gC (dP k a b)):=by
 have DU:=vU ha (by omega:400000≤1000000)
 have ZI:=vU hb (by omega:400000≤1000000)
 have m1:=bQ
 unfold dP
 by_cases k3:k=3
 ·rw[if_pos k3,za (by simpa using k3),z6 (oG 0 0 a b DU ZI (by omega) (by omega)),z7]
  rfl
 ·rw[if_neg k3,z8 (by simpa using k3)]
  by_cases k4:k=4
  ·have hs:=mw (b := -1) (j:=1) (by omega) hb
   have hl:=bF (-1) b.1
   rw[if_pos k4,za (by simpa using k4),z6 JC,z6 (uV (-1) 0 b (by omega) ZI (by omega)),z6 (oG 0 0 a (Ym (-1) b) DU (vU hs (by omega)) (by omega) (by show(ZM (-1) b.1).length≤1000000; omega)),z7]
   rfl
  ·rw[if_neg k4,z8 (by simpa using k4)]
   by_cases k5:k=5
   ·rw[if_pos k5,za (by simpa using k5)]
    have hm:(rG (qZ 0 a) (qZ 0 b)).run=some (gC (if a.1≠[]∧b.1≠[]then(Q5,6)else if a.1≠[]then(Ym b.2 a,0)else(Ym a.2 b,0))):=by
     unfold rG
     rw[yh,yh]
     by_cases c:a.1≠[]∧b.1≠[]
     ·rw[if_pos c,za (by rw[decide_eq_true c.1,decide_eq_true c.2]; rfl),z7]; rfl
     ·rw[if_neg c,z8 (by by_cases h:a.1≠[]; rw[decide_eq_false (fun h2=>c ⟨h,h2⟩),Bool.and_false]; rw[decide_eq_false h]; rfl)]
      by_cases c2:a.1≠[]
      ·rw[if_pos c2,za (decide_eq_true c2)]
       show(T.bind (vi (qZ 0 a) (qR b.2)) _).run=_
       rw[z6 (uV b.2 0 a (by have:=hb.1; omega) DU (by omega)),z7]; rfl
      ·rw[if_neg c2,z8 (decide_eq_false c2)]
       show(T.bind (vi (qZ 0 b) (qR a.2)) _).run=_
       rw[z6 (uV a.2 0 b (by have:=ha.1; omega) ZI (by omega)),z7]; rfl
    rw[z6 hm]
    rfl
   ·have BN:=hb.1
    rw[if_neg k5,z8 (by simpa using k5)]
    have hm:(rX (qZ 0 a) (qZ 0 b)).run=some (gC (if b.1≠[]then(Q5,6)else if b.2=0 then(Q5,7)else(Ym (1 / b.2) a,0))):=by
     obtain⟨z,hd⟩:=Xv (qR 1) (qR b.2) (qF (by rw[Hw]; omega)) (qF (by omega))
     rw[xX,xX]at hd
     unfold rX
     rw[yh]
     by_cases c:b.1≠[]
     ·rw[if_pos c,za (decide_eq_true c),z7]; rfl
     ·rw[if_neg c,z8 (decide_eq_false c),z6 DB]
      show(T.bind (dS (qR 1) (qR b.2)) _).run=_
      rw[z6 hd]
      dsimp only
      by_cases z:b.2=0
      ·rw[if_pos z,if_pos z,za (by simp[z]),z7]; rfl
      ·have:=Jp b.2
       rw[if_neg z,if_neg z,z8 (by simp[z]),z6 (uV (1 / b.2) 0 a (by omega) DU (by omega)),z7]; rfl
    rw[z6 hm]
    rfl
theorem C7{v:zB}(hv:kv v)(e:Expr)(d:Nat)(ho:vf d e=true)(ha:allOk e)(hn:xU e≤1000):(UN e v).run=some (gC (vS v e)):=by
 unfold UN
 refine jG (fun x:Expr×zB=>(∃ d,vf d x.1=true)∧allOk x.1∧xU x.1≤1000∧x.2=v) (fun x=>xU x.1) (fun x=>gC (vS v x.1)) (fun x hx g hg => ?_) (x:=(e,v)) ⟨⟨d,ho⟩,ha,hn,rfl⟩
 obtain⟨e,v'⟩:=x
 obtain⟨⟨d,ho⟩,ha,hn,E2⟩:=hx
 dsimp only at ho ha hn E2 ⊢
 subst E2
 cases e with | mk k n s l =>
 rw[mv]
 unfold tQ
 rw[show Expr.kind (.mk k n s l)=k from rfl,show Expr.kids (.mk k n s l)=l from rfl,show Expr.num (.mk k n s l)=n from rfl,show Expr.name (.mk k n s l)=s from rfl]
 rcases mM ho with rfl | rfl | ⟨rfl,a,rfl,V3⟩ | ⟨hk,a,b,rfl,V3,OY⟩
 ·rw[if_pos rfl,za (by rfl),z6 (xA n (xM ha.1 (by omega))),z7,xk]; rfl
 ·rw[if_neg (by decide),if_pos rfl,z8 (by rfl),za (by rfl),z6 (ZH hv s),z7]
 ·rw[sO]at hn
  have hr:=hg (a,v') ⟨⟨_,V3⟩,ha.2.1,by show xU a≤1000; omega,rfl⟩ (by show xU a<xU (.mk 7 n s [a]); rw[sO]; omega)
  have ka:=QB hv (xU a) a (d+1) (Nat.le_refl _) V3 ha.2.1
  dsimp only at hr
  rw[if_neg (by decide),if_neg (by decide),z8 (by rfl),z8 (by rfl),zc ⟨by omega,by simp⟩,show nth [a] (0:Int) (zb .expr)=a from rfl,z6 hr]
  show _=some (gC (if(vS v' a).2≠0 then(Q5,(vS v' a).2)else(Ym (-1) (vS v' a).1,0)))
  generalize vS v' a=A at *
  obtain⟨A1,A2⟩:=A
  have kl:=ka.len
  dsimp only at ka kl ⊢
  by_cases c:A2≠0
  ·rw[if_pos c,wy c,wy c]
   dsimp only
   rw[za (by simpa using c),z7]; rfl
  ·have:A2=0:=by simpa using c
   subst this
   have m1:=bQ
   rw[if_neg (by decide),uT,uT]
   dsimp only
   rw[z8 (by rfl),za (by rfl),z6 JC,z6 (uV (-1) 0 A1 (by omega) (vU ka.sz (by omega)) (by omega)),z7]
 ·rw[iU]at hn
  have hra:=hg (a,v') ⟨⟨_,V3⟩,ha.2.1,by show xU a≤1000; omega,rfl⟩ (by show xU a<xU (.mk k n s [a,b]); rw[iU]; omega)
  have hrb:=hg (b,v') ⟨⟨_,OY⟩,ha.2.2.1,by show xU b≤1000; omega,rfl⟩ (by show xU b<xU (.mk k n s [a,b]); rw[iU]; omega)
  have ka:=QB hv (xU a) a (d+1) (Nat.le_refl _) V3 ha.2.1
  have kb:=QB hv (xU b) b (d+1) (Nat.le_refl _) OY ha.2.2.1
  dsimp only at hra hrb
  have k1:(k==1)=false:=by rw[beq_eq_false_iff_ne]; omega
  have k2:(k==2)=false:=by rw[beq_eq_false_iff_ne]; omega
  have k7:(k==7)=false:=by rw[beq_eq_false_iff_ne]; omega
  rw[if_neg (by omega),if_neg (by omega),z8 k1,z8 k2,zc ⟨by omega,by simp⟩,show nth [a,b] (0:Int) (zb .expr)=a from rfl,show nth [a,b] (1:Int) (zb .expr)=b from rfl,z6 hra]
  show _=some (gC (if(vS v' a).2≠0 then(Q5,(vS v' a).2)else if(vS v' b).2≠0 then(Q5,(vS v' b).2)else dP k (vS v' a).1 (vS v' b).1))
  generalize vS v' a=A at *
  generalize vS v' b=B at *
  obtain⟨A1,A2⟩:=A
  obtain⟨B1,B2⟩:=B
  have kl:=ka.len
  have kl2:=kb.len
  dsimp only at ka kb kl kl2 ⊢
  by_cases c:A2≠0
  ·rw[if_pos c,wy c,wy c]
   dsimp only
   rw[za (by simpa using c),z7]; rfl
  ·have:A2=0:=by simpa using c
   subst this
   rw[if_neg (by decide),uT]
   dsimp only
   rw[z8 (by rfl),z8 k7,zc ⟨by omega,by simp⟩,z6 hrb]
   by_cases c2:B2≠0
   ·rw[if_pos c2,wy c2,wy c2]
    dsimp only
    rw[za (by simpa using c2),z7]; rfl
   ·have:B2=0:=by simpa using c2
    subst this
    rw[if_neg (by decide),uT]
    dsimp only
    rw[z8 (by rfl)]
    exact YI k A1 B1 hk (vU ka.sz (by omega)) (vU kb.sz (by omega)) (by omega) (by omega)
def eO(v:zB)(e:Expr):AC×Int:=if Pf e=true then vS v e else(Q5,5)
theorem BA{e:Expr}(h:Pf e=true):vf 0 e=true∧xU e≤256:=by
 unfold Pf at h
 rw[Bool.and_eq_true,decide_eq_true_eq]at h
 exact h
theorem WN{v:zB}(hv:kv v)(e:Expr)(ha:allOk e):SzA 256 (eO v e):=by
 unfold eO
 by_cases h:Pf e=true
 ·rw[if_pos h]
  obtain⟨h1,h2⟩:=BA h
  have:=QB hv (xU e) e 0 (Nat.le_refl _) h1 ha
  exact⟨vU this.sz (by omega),Nat.le_trans this.len h2⟩
 ·rw[if_neg h]; exact Zv (by omega) _
theorem JT{v:zB}(hv:kv v)(e:Expr)(ha:allOk e)(hn:xU e≤100000):(Jh e v).run=some (gC (eO v e)):=by
 unfold Jh eO
 rw[z6 (OU e ha (by omega))]
 cases h:Pf e with
 | false=>rw[if_neg (by simp)]; rfl
 | true =>
  obtain⟨h1,h2⟩:=BA h
  rw[if_pos rfl,z8 (by rfl),z6 (Ch hv e 0 h1 ha (by omega)),z7]
theorem Ue{v:zB}(hv:kv v)(e:Expr)(ha:allOk e)(hn:xU e≤100000)(hb:bkE e≤1000000000):(X7 e v).run=some (gC (eO v e)):=by
 unfold X7 eO
 rw[z6 (sU e ha hb (by omega))]
 cases h:Pf e with
 | false=>rw[if_neg (by simp)]; rfl
 | true =>
  obtain⟨h1,h2⟩:=BA h
  rw[if_pos rfl,z8 (by rfl),z6 (C7 hv e 0 h1 ha (by omega)),z7]
def j9(v:zB)(l r:Expr):AC×Int :=
 if(eO v l).2≠0 then(Q5,(eO v l).2)else if(eO v r).2≠0 then(Q5,(eO v r).2)else(adC (eO v l).1 (Ym (-1) (eO v r).1),0)
def NA(s:Int)(r:AC×Int):wF×Int:=(if r.2=0 then qZ s r.1 else zC,r.2)
theorem ng{s:Int}{a:AC}{x:Int}(h:x≠0):NA s (a,x)=(zC,x):=by unfold NA; rw[if_neg h]
theorem Ja(s:Int)(a:AC):NA s (a,0)=(qZ s a,0):=by unfold NA; rw[if_pos rfl]
theorem LB{v:zB}(hv:kv v)(l r:Expr)(hl:allOk l)(hr:allOk r):SzA 520 (j9 v l r):=by
 have kl:=WN hv l hl
 have kr:=WN hv r hr
 have m1:=bQ
 unfold j9
 split
 ·exact Zv (by omega) _
 ·split
  ·exact Zv (by omega) _
  ·have hs:=mw (b := -1) (j:=1) (by omega) kr.sz
   have hle:=bF (-1) (eO v r).1.1
   have:=kl.len
   have:=kr.len
   exact⟨vU (Ip kl.sz hs) (by omega),by have:=mc ((eO v l).1.1.length+(ZM (-1) (eO v r).1.1).length) (eO v l).1.1 (ZM (-1) (eO v r).1.1); show(ft ((eO v l).1.1.length+(ZM (-1) (eO v r).1.1).length) (eO v l).1.1 (ZM (-1) (eO v r).1.1)).length≤_; omega⟩
theorem EX{v:zB}(hv:kv v)(r:uP)(h1:allOk r.2.2.2.1)(h2:allOk r.2.2.2.2.1)(n1:xU r.2.2.2.1≤100000)(n2:xU r.2.2.2.2.1≤100000):(nJ r v).run=some (NA r.2.1 (j9 v r.2.2.2.1 r.2.2.2.2.1)):=by
 have kl:=WN hv r.2.2.2.1 h1
 have kr:=WN hv r.2.2.2.2.1 h2
 have m1:=bQ
 unfold nJ j9
 rw[z6 (JT hv r.2.2.2.1 h1 n1)]
 have hb:=JT hv r.2.2.2.2.1 h2 n2
 generalize eO v r.2.2.2.1=A at *
 generalize eO v r.2.2.2.2.1=B at *
 obtain⟨A1,A2⟩:=A
 obtain⟨B1,B2⟩:=B
 have ll:=kl.len
 have lr:=kr.len
 dsimp only at kl kr ll lr ⊢
 by_cases c:A2≠0
 ·rw[if_pos c,wy c,ng c]
  dsimp only
  rw[za (by simpa using c),z7]
 ·have:A2=0:=by simpa using c
  subst this
  rw[if_neg (by decide),uT]
  dsimp only
  rw[z8 (by rfl),z6 hb]
  by_cases c2:B2≠0
  ·rw[if_pos c2,wy c2,ng c2]
   dsimp only
   rw[za (by simpa using c2),z7]
  ·have:B2=0:=by simpa using c2
   subst this
   have hs:=mw (b := -1) (j:=1) (by omega) kr.sz
   have hle:=bF (-1) B1.1
   rw[if_neg (by decide),uT,Ja]
   dsimp only
   rw[z8 (by rfl),z6 JE,z6 (jy (-1) 0 B1 (by omega) (vU kr.sz (by omega)) (by omega)),z6 (rY 0 0 A1 (Ym (-1) B1) (vU kl.sz (by omega)) (vU hs (by omega)) (by omega) (by show(ZM (-1) B1.1).length≤_; omega)),z7]
   rfl
theorem B3{v:zB}(hv:kv v)(r:uP)(h1:allOk r.2.2.2.1)(h2:allOk r.2.2.2.2.1)(n1:xU r.2.2.2.1≤100000)(n2:xU r.2.2.2.2.1≤100000)(b1:bkE r.2.2.2.1≤1000000000)(b2:bkE r.2.2.2.2.1≤1000000000):(cZ r v).run=some (NA r.2.1 (j9 v r.2.2.2.1 r.2.2.2.2.1)):=by
 have kl:=WN hv r.2.2.2.1 h1
 have kr:=WN hv r.2.2.2.2.1 h2
 have m1:=bQ
 unfold cZ j9
 rw[z6 (Ue hv r.2.2.2.1 h1 n1 b1)]
 have hb:=Ue hv r.2.2.2.2.1 h2 n2 b2
 generalize eO v r.2.2.2.1=A at *
 generalize eO v r.2.2.2.2.1=B at *
 obtain⟨A1,A2⟩:=A
 obtain⟨B1,B2⟩:=B
 have ll:=kl.len
 have lr:=kr.len
 dsimp only at kl kr ll lr ⊢
 by_cases c:A2≠0
 ·rw[if_pos c,wy c,ng c]
  dsimp only
  rw[za (by simpa using c),z7]; rfl
 ·have:A2=0:=by simpa using c
  subst this
  rw[if_neg (by decide),uT]
  dsimp only
  rw[z8 (by rfl),z6 hb]
  by_cases c2:B2≠0
  ·rw[if_pos c2,wy c2,ng c2]
   dsimp only
   rw[za (by simpa using c2),z7]; rfl
  ·have:B2=0:=by simpa using c2
   subst this
   have hs:=mw (b := -1) (j:=1) (by omega) kr.sz
   have hle:=bF (-1) B1.1
   rw[if_neg (by decide),uT,Ja]
   dsimp only
   rw[z8 (by rfl),z6 JC,z6 (uV (-1) 0 B1 (by omega) (vU kr.sz (by omega)) (by omega)),z6 (oG 0 0 A1 (Ym (-1) B1) (vU kl.sz (by omega)) (vU hs (by omega)) (by omega) (by show(ZM (-1) B1.1).length≤_; omega)),z7]
   rfl
structure FL(f:Form):Prop where
 n:f.1.length+f.2.1.length+f.2.2.1.length+f.2.2.2.1.length+f.2.2.2.2.1.length+f.2.2.2.2.2.1.length≤30
 s:∀ x∈f.1,x.1.length≤600
 p:∀ x∈f.2.1,x.1.length≤600∧x.2.1.2.1.length≤75∧x.2.1.2.2.1.length≤75
 g:∀ x∈f.2.2.1,x.1.length≤600∧x.2.1.length≤600
 d:∀ x∈f.2.2.2.1,x.1.length≤600
 r:∀ x∈f.2.2.2.2.1,x.1.length≤600∧x.2.2.1.length≤600∧szE x.2.2.2.1≤600∧szE x.2.2.2.2.1≤600
 c:∀ x∈f.2.2.2.2.2.1,x.1.length≤600∧szE x.2.2.2.1≤600∧szE x.2.2.2.2.1≤600
theorem gw(e:Expr):Expr.mk (Expr.kind e) ((Expr.num e).1,((Expr.num e).2.1,((Expr.num e).2.2.1,()))) (Expr.name e) (Expr.kids e)=e:=by
 cases e; rfl
mutual
theorem RQ:∀ e:Expr,bkE e≤4*szE e
 | .mk k n s l=>by
  have:=Mz l
  unfold bkE szE
  omega
theorem Mz:∀ l:List Expr,bkEs l≤4*szEs l
 | []=>Nat.le_refl _
 | e::r=>by
  have h1:=RQ e
  have h2:=Mz r
  unfold bkEs szEs
  omega
end
def eJ(e:Expr):Prop:=szE e≤600∧allOk e
theorem jN{e:Expr}(h:eJ e):bkE e≤2400:=by have:=RQ e; have:=h.1; omega
theorem US{e:Expr}(h:eJ e):xU e≤256:=by have:=Bx e; have:=h.1; omega
theorem UJ{e:Expr}(h:eJ e):(uJ e).run=some (vf 0 e):=TR e h.2 (US h)
theorem Wj{e:Expr}(h:eJ e):(ya e).run=some (vf 0 e):=U2 e h.2 (by have:=jN h; omega) (US h)
theorem Mw{e:Expr}(h:eJ e)(ho:vf 0 e=true):(cI e).run=some (prE e):=Nj e ho h.2 (by have:=h.1; omega)
theorem Xo{e:Expr}(h:eJ e)(ho:vf 0 e=true):(kP e).run=some (prE e):=Yg e ho h.2 (by have:=h.1; omega) (by have:=jN h; omega)
theorem dB{e:Expr}(h:eJ e)(ho:vf 0 e=true):(prE e).length≤1200000:=by
 have:=ml (xU e) e 0 (Nat.le_refl _) ho h.2
 have:=h.1
 omega
structure FS(f:Form):Prop where
 n:f.1.length+f.2.1.length+f.2.2.1.length+f.2.2.2.1.length+f.2.2.2.2.1.length+f.2.2.2.2.2.1.length≤30
 s:∀ x∈f.1,x.1.length≤600
 p:∀ x∈f.2.1,x.1.length≤600∧qS 100 x.2.1
 g:∀ x∈f.2.2.1,x.1.length≤600∧x.2.1.length≤600
 d:∀ x∈f.2.2.2.1,x.1.length≤600
 r:∀ x∈f.2.2.2.2.1,x.1.length≤600∧x.2.2.1.length≤600∧eJ x.2.2.2.1∧eJ x.2.2.2.2.1
 c:∀ x∈f.2.2.2.2.2.1,x.1.length≤600∧eJ x.2.2.2.1∧eJ x.2.2.2.2.1
theorem zdq{f:Form}(hw:wf zK f)(hb:FB f)(hl:FL f):FS f:=by
 refine⟨hl.n,hl.s,fun x hx => ?_,hl.g,hl.d,fun x hx => ?_,fun x hx => ?_⟩
 ·obtain⟨a,b,c⟩:=hl.p x hx
  obtain⟨_,_,_,d,e⟩:=hb.p x hx
  exact⟨a,d,e,by omega,by omega⟩
 ·obtain⟨a,b,c,d⟩:=hl.r x hx
  have hwx:wf zl x:=hw.2.2.2.2.1 x hx
  exact⟨a,b,⟨c,sG _ hwx.2.2.2.1 (by omega)⟩,d,sG _ hwx.2.2.2.2.1 (by omega)⟩
 ·obtain⟨a,b,c⟩:=hl.c x hx
  have hwx:wf zn x:=hw.2.2.2.2.2.1 x hx
  exact⟨a,⟨b,sG _ hwx.2.2.2.1 (by omega)⟩,c,sG _ hwx.2.2.2.2.1 (by omega)⟩
def Ky(x:Switch):Bool := !w9 x.1
def fK(x:Param):Bool := !w9 x.1||(!eG x.2.1||wX x.2.1)
def nL(s:zf):Bool:=zM s []||w9 s
def KC(x:tr):Bool := !w9 x.1 || !nL x.2.1
def UD(n at_:Int)(x:Field):Bool:=decide (x.2.1<at_)||(decide (n≤x.2.1)||(!w9 x.1||(decide (x.2.2.2.1<(0:Int))||decide ((9:Int)<x.2.2.2.1))))
def Uv(n at_:Int)(x:Check):Bool:=decide (x.2.1<at_)||(decide (n≤x.2.1)||(!w9 x.1||(decide (x.2.2.1<(0:Int))||(decide ((2:Int)<x.2.2.1)||(!vf 0 x.2.2.2.1 || !vf 0 x.2.2.2.2.1)))))
def W3(x:uP):Bool := !w9 x.1||(!nL x.2.2.1||(decide (x.2.1<(0:Int))||(decide ((3:Int)<x.2.1)||(!vf 0 x.2.2.2.1 || !vf 0 x.2.2.2.2.1))))
def X1{α:Type}(bad:Int→α→Bool)(nx:α→Int):Int→List α→Bool
 | _,[]=>true
 | at_,x::r => !bad at_ x&&X1 bad nx (nx x) r
theorem FW{α:Type}(bad:Int→α→Bool)(nx:α→Int)(at_:Int)(x:α)(r:List α):X1 bad nx at_ (x::r)=(!bad at_ x&&X1 bad nx (nx x) r):=rfl
def a1(f:Form):Bool := !f.1.any Ky
def a2(f:Form):Bool := !f.2.1.any fK
def a3(f:Form):Bool := !f.2.2.1.any KC
def a4(f:Form):Bool:=X1 (UD (f.2.2.1.length:Int)) (fun x=>x.2.1) 0 f.2.2.2.1
def a5(f:Form):Bool:=X1 (Uv (f.2.2.1.length:Int)) (fun x=>x.2.1) 0 f.2.2.2.2.2.1
def a6(f:Form):Bool := !f.2.2.2.2.1.any W3
theorem W6{α:Type}(l:List α)(d:α)(bad:α→Bool){r:Int→T (Int⊕(Unit⊕Bool))}
  (step:∀ (k:Nat) (x:α),k<l.length→nth l (k:Int) d=x→x∈l→(r (k:Int)).run=some (if bad x=true then .inr (.inr false)else .inl ((k+1:Nat):Int)))
  (done:(r (l.length:Int)).run=some (.inr (.inl ()))):(T.loop r 0).run=some (if l.any bad=true then .inr false else .inl ()):=by
 refine T.jt (r:=r) l d (fun(_:Unit) i=>i) (fun _ _=>True) (fun xs _=>if xs.any bad=true then .inr false else .inl ()) (fun k b x xs hk hx hm _ _ => ?_) (fun b _ => ?_) (b:=()) trivial
 ·rw[step k x hk hx hm,List.any_cons]
  cases bad x with
  | true=>exact .inr rfl
  | false=>exact .inl ⟨(),rfl,trivial,rfl⟩
 ·exact done
theorem tN{α:Type}(l:List α)(d:α)(bad:Int→α→Bool)(nx:α→Int){r:Int×Int→T ((Int×Int)⊕(Unit⊕Bool))}
  (hn:∀ at_ x,0≤at_→bad at_ x=false→0≤nx x)
  (step:∀ (k:Nat) (at_:Int) (x:α),k<l.length→nth l (k:Int) d=x→x∈l→0≤at_→(r (at_,(k:Int))).run=some (if bad at_ x=true then .inr (.inr false)else .inl (nx x,((k+1:Nat):Int))))
  (done:∀ at_,(r (at_,(l.length:Int))).run=some (.inr (.inl ()))):(T.loop r (0,0)).run=some (if X1 bad nx 0 l=true then .inl ()else .inr false):=by
 refine T.jt (r:=r) l d (fun(b:Int) i=>(b,i)) (fun _ b=>0≤b) (fun xs b=>if X1 bad nx b xs=true then .inl ()else .inr false) (fun k b x xs hk hx hm _ h0 => ?_) (fun b _ => ?_) (b:=0) (Int.le_refl 0)
 ·rw[step k b x hk hx hm h0]
  rw[FW]
  cases h:bad b x with
  | true=>exact .inr rfl
  | false=>exact .inl ⟨nx x,rfl,hn b x h0 h,rfl⟩
 ·exact done b
theorem nn{α:Type}{bad:Int→α→Bool}{nx:α→Int}:∀ {l:List α} {at_:Int},X1 bad nx at_ l=true→∀ x∈l,∃ b,bad b x=false
 | [],_,_,x,hx=>by cases hx
 | y::r,at_,h,x,hx=>by
  unfold X1 at h
  rw[Bool.and_eq_true,Bool.not_eq_true']at h
  rcases List.mem_cons.1 hx with rfl | hx
  ·exact⟨at_,h.1⟩
  ·exact nn h.2 x hx
theorem NF{α:Type}{x:α}{b c:Bool}{t:T (Bool×α)}(h:t.run=some (c,x)):(T.ite b (.ret (true,x)) t).run=some (b||c,x):=by cases b; exact h; rfl
theorem orB{b c:Bool}{t:T Bool}(h:t.run=some c):(T.ite b (.ret true) t).run=some (b||c):=by cases b; exact h; rfl
theorem rN{α:Type}{x:α}{m:T Bool}{b c:Bool}{t:T (Bool×α)}(hm:m.run=some b)(h:t.run=some (c,x)):(T.bind m fun r=>T.ite (!r) (.ret (true,x)) t).run=some (!b||c,x):=by
 rw[z6 hm]; exact NF h
theorem VK{m:T Bool}{b c:Bool}{t:T Bool}(hm:m.run=some b)(h:t.run=some c):(T.bind m fun r=>T.ite (!r) (.ret true) t).run=some (!b||c):=by
 rw[z6 hm]; exact orB h
theorem z5s{α:Type}{x:α}{m:T Bool}{b:Bool}(hm:m.run=some b):(T.bind m fun r=>.ret ((!r),x)).run=some (!b,x):=by
 rw[z6 hm]; rfl
theorem PK{m:T Bool}{b:Bool}(hm:m.run=some b):(T.bind m fun r=>.ret (!r)).run=some (!b):=by
 rw[z6 hm]; rfl
abbrev YC(a b:Int):Prop:=a≤b
abbrev ilt(a b:Int):Prop:=a<b
def Pd(x:Switch):zf:=[115,119,105,116,99,104,32]++x.1++(bif x.2.1 then[32,111,110,10]else[32,111,102,102,10])
def Iv(x:Param):zf:=[112,97,114,97,109,32]++x.1++[32]++eB (norm x.2.1)++[10]
def whS(s:zf):zf:=if s=[]then[]else[32,119,104,101,110,32]++s
def phS(x:tr):zf:=[112,97,103,101,32]++x.1++whS x.2.1++[10]
def fhS(x:Field):zf:=bif x.2.2.1 then[102,105,101,108,100,32]++x.1++[32,109,117,115,116]else[102,105,101,108,100,32]++x.1
def fdS(x:Field):zf:=if(0:Int)<x.2.2.2.1 then fhS x++([32,115,99,97,108,101,32]++pO x.2.2.2.1)++[10]else fhS x++[10]
def siS(l:Expr)(sign:zf)(r:Expr):zf:=[32,58,32]++prE l++[32]++sign++[32]++prE r++[10]
def YK(n:Int):zf:=if n=1 then[60]else if n=2 then[60,61]else[61]
def EG(n:Int):zf:=if n=0 then[114,101,113,117,105,114,101,100]else if n=1 then[115,116,114,111,110,103]else if n=2 then[109,101,100,105,117,109]else[119,101,97,107]
def ckS(x:Check):zf:=[99,104,101,99,107,32]++x.1++siS x.2.2.2.1 (YK x.2.2.1) x.2.2.2.2.1
def LY(x:uP):zf:=[114,117,108,101,32]++EG x.2.1++[32]++x.1++whS x.2.2.1++siS x.2.2.2.1 [61] x.2.2.2.2.1
def Pb(i:Int)(x:Field):zf:=if(x.2.1==i)=true then fdS x else[]
def ckI(i:Int)(x:Check):zf:=if(x.2.1==i)=true then ckS x else[]
def Ma(f:Form)(i:Nat):zf:=phS (nth f.2.2.1 (i:Int) (zb qy))++f.2.2.2.1.flatMap (Pb i)++f.2.2.2.2.2.1.flatMap (ckI i)
def frS(f:Form):zf:=f.1.flatMap Pd++f.2.1.flatMap Iv++(List.range f.2.2.1.length).flatMap (Ma f)++f.2.2.2.2.1.flatMap LY
structure P0(f:Form):Prop extends FS f where
 d2:∀ x∈f.2.2.2.1,YC 0 x.2.2.2.1∧YC x.2.2.2.1 9
 c2:∀ x∈f.2.2.2.2.2.1,YC 0 x.2.2.1∧YC x.2.2.1 2∧vf 0 x.2.2.2.1=true∧vf 0 x.2.2.2.2.1=true
 r2:∀ x∈f.2.2.2.2.1,YC 0 x.2.1∧YC x.2.1 3∧vf 0 x.2.2.2.1=true∧vf 0 x.2.2.2.2.1=true
theorem z4I{f:Form}(h:FS f)(h4:a4 f=true)(h5:a5 f=true)(h6:a6 f=true):P0 f:=by
 refine { toFS:=h,d2:=fun x hx => ?_,c2:=fun x hx => ?_,r2:=fun x hx => ?_ }
 ·obtain⟨b,hb⟩:=nn h4 x hx
  unfold UD at hb
  simp only[Bool.or_eq_false_iff,decide_eq_false_iff_not,Bool.not_eq_false']at hb
  obtain⟨_,_,_,q1,q2⟩:=hb
  exact⟨Int.not_lt.1 q1,Int.not_lt.1 q2⟩
 ·obtain⟨b,hb⟩:=nn h5 x hx
  unfold Uv at hb
  simp only[Bool.or_eq_false_iff,decide_eq_false_iff_not,Bool.not_eq_false']at hb
  obtain⟨_,_,_,q1,q2,q3,q4⟩:=hb
  exact⟨Int.not_lt.1 q1,Int.not_lt.1 q2,q3,q4⟩
 ·unfold a6 at h6
  rw[Bool.not_eq_true',List.any_eq_false]at h6
  have hb:W3 x=false:=by simpa using h6 x hx
  unfold W3 at hb
  simp only[Bool.or_eq_false_iff,decide_eq_false_iff_not,Bool.not_eq_false']at hb
  obtain⟨_,_,q1,q2,q3,q4⟩:=hb
  exact⟨Int.not_lt.1 q1,Int.not_lt.1 q2,q3,q4⟩
theorem XY(n:Int):(YK n).length≤2:=by unfold YK; split; decide; split<;>decide
theorem Yc(n:Int):(EG n).length≤8:=by unfold EG; split; decide; split; decide; split<;>decide
theorem tL(s:zf):(whS s).length≤s.length+6:=by unfold whS; split<;>simp
theorem UW(x:Switch)(h:x.1.length≤600):(Pd x).length≤4000000:=by
 unfold Pd
 cases x.2.1<;>simp<;>omega
theorem UQ(x:Param)(h:x.1.length≤600)(hr:qS 100 x.2.1):(Iv x).length≤4000000:=by
 have:=QG x.2.1 ⟨hr.1,hr.2.1,by have:=hr.2.2.1; omega,by have:=hr.2.2.2; omega⟩
 unfold Iv
 simp only[List.length_append,List.length_cons,List.length_nil]
 omega
theorem MF(x:tr)(h:x.1.length≤600)(h2:x.2.1.length≤600):(phS x).length≤4000000:=by
 have:=tL x.2.1
 unfold phS
 simp only[List.length_append,List.length_cons,List.length_nil]
 omega
theorem Bf(x:Field):(fhS x).length≤x.1.length+11:=by
 unfold fhS
 cases x.2.2.1<;>simp
theorem Bz(x:Field)(h:x.1.length≤600)(h1:YC 0 x.2.2.2.1)(h2:YC x.2.2.2.1 9):(fdS x).length≤4000000:=by
 have:=BP x.2.2.2.1 ⟨by unfold YC at *; omega,by unfold YC at *; omega⟩
 have:=Bf x
 unfold fdS
 split<;>simp only[List.length_append,List.length_cons,List.length_nil]<;>omega
theorem UK{l r:Expr}(s:zf)(hs:s.length≤8)(h1:eJ l)(h2:eJ r)(o1:vf 0 l=true)(o2:vf 0 r=true):(siS l s r).length≤2500000:=by
 have:=dB h1 o1
 have:=dB h2 o2
 unfold siS
 simp only[List.length_append,List.length_cons,List.length_nil]
 omega
theorem N6(x:Check)(h:x.1.length≤600)(h1:eJ x.2.2.2.1)(h2:eJ x.2.2.2.2.1)(o1:vf 0 x.2.2.2.1=true)(o2:vf 0 x.2.2.2.2.1=true):(ckS x).length≤4000000:=by
 have:=UK (YK x.2.2.1) (by have:=XY x.2.2.1; omega) h1 h2 o1 o2
 unfold ckS
 simp only[List.length_append,List.length_cons,List.length_nil]
 omega
theorem Jc(x:uP)(h:x.1.length≤600)(h':x.2.2.1.length≤600)(h1:eJ x.2.2.2.1)(h2:eJ x.2.2.2.2.1)(o1:vf 0 x.2.2.2.1=true)(o2:vf 0 x.2.2.2.2.1=true):(LY x).length≤4000000:=by
 have:=UK [61] (by decide) h1 h2 o1 o2
 have:=Yc x.2.1
 have:=tL x.2.2.1
 unfold LY
 simp only[List.length_append,List.length_cons,List.length_nil]
 omega
theorem Xw{f:Form}(h:P0 f)(i:Int):∀ x∈f.2.2.2.1,(Pb i x).length≤4000000:=fun x hx=>by
 unfold Pb
 split
 ·exact Bz x (h.d x hx) (h.d2 x hx).1 (h.d2 x hx).2
 ·exact Nat.zero_le _
theorem B8{f:Form}(h:P0 f)(i:Int):∀ x∈f.2.2.2.2.2.1,(ckI i x).length≤4000000:=fun x hx=>by
 unfold ckI
 obtain⟨q1,q2,q3⟩:=h.c x hx
 obtain⟨_,_,o1,o2⟩:=h.c2 x hx
 split
 ·exact N6 x q1 q2 q3 o1 o2
 ·exact Nat.zero_le _
theorem MI{f:Form}(h:P0 f){i:Nat}(hi:i<f.2.2.1.length):(nth f.2.2.1 (i:Int) (zb qy)).1.length≤600∧(nth f.2.2.1 (i:Int) (zb qy)).2.1.length≤600 :=
 h.g _ (vp (by omega) (by omega))
theorem Hj{f:Form}(h:P0 f){i:Nat}(hi:i<f.2.2.1.length):(Ma f i).length≤300000000:=by
 obtain⟨g1,g2⟩:=MI h hi
 have h1:=MF _ g1 g2
 have h2:=j4 (Pb i) f.2.2.2.1 4000000 (Xw h i)
 have h3:=j4 (ckI i) f.2.2.2.2.2.1 4000000 (B8 h i)
 have:=h.n
 have:f.2.2.2.1.length*4000000≤30*4000000:=Nat.mul_le_mul_right _ (by omega)
 have:f.2.2.2.2.2.1.length*4000000≤30*4000000:=Nat.mul_le_mul_right _ (by omega)
 unfold Ma
 simp only[List.length_append]
 omega
theorem mL{α:Type}(l:List α)(d:α)(C B:Nat)(f:α→zf)(s:zf){r:zf×Int→T ((zf×Int)⊕zf)}
  (step:∀ (k:Nat) (b:zf) (x:α),k<l.length→nth l (k:Int) d=x→x∈l→b.length+C≤B→(r (b,(k:Int))).run=some (.inl (b++f x,((k+1:Nat):Int))))
  (done:∀ b,(r (b,(l.length:Int))).run=some (.inr b)) (hf:∀ x∈l,(f x).length≤C) (hB:s.length+l.length*C≤B):(T.loop r (s,0)).run=some (s++l.flatMap f):=by
 rw[← WU]
 refine T.nY (r:=r) l d (fun(b:zf) i=>(b,i)) (fun k b=>b.length≤s.length+k*C) (fun b x=>b++f x) (fun b=>b) (fun k b x hk hx hm hI => ?_) (fun b hI=>done b) (b:=s) (by omega)
 have h4:=XB (c:=C) (show k+1≤l.length from hk)
 rw[Nat.add_mul,Nat.one_mul]at h4
 refine⟨step k b x hk hx hm (by omega),?_⟩
 have:=hf x hm
 rw[List.length_append,Nat.add_mul,Nat.one_mul]
 omega
theorem mS{α:Type}(l:List α)(d:α)(C B:Nat)(f:α→zf)(s:zf){r:Int×Unit×List Int→T ((Int×Unit×List Int)⊕(Unit×List Int))}
  (step:∀ (k:Nat) (b:zf) (x:α),k<l.length→nth l (k:Int) d=x→x∈l→b.length+C≤B→(r ((k:Int),(),bytesOf b)).run=some (.inl (((k+1:Nat):Int),(),bytesOf (b++f x))))
  (done:∀ b,(r ((l.length:Int),(),bytesOf b)).run=some (.inr ((),bytesOf b))) (hf:∀ x∈l,(f x).length≤C) (hB:s.length+l.length*C≤B):(T.loop r (0,(),bytesOf s)).run=some ((),bytesOf (s++l.flatMap f)):=by
 rw[← WU]
 refine T.nY (r:=r) l d (fun(b:zf) i=>(i,(),bytesOf b)) (fun k b=>b.length≤s.length+k*C) (fun b x=>b++f x) (fun b=>((),bytesOf b)) (fun k b x hk hx hm hI => ?_) (fun b hI=>done b) (b:=s) (by omega)
 have h4:=XB (c:=C) (show k+1≤l.length from hk)
 rw[Nat.add_mul,Nat.one_mul]at h4
 refine⟨step k b x hk hx hm (by omega),?_⟩
 have:=hf x hm
 rw[List.length_append,Nat.add_mul,Nat.one_mul]
 omega
theorem ZK(l:List Switch)(g:Switch→T Bool)(p:Switch→Bool)(hg:∀ x∈l,(g x).run=some (p x))(hl:l.length≤1000000000):(qD l g).run=some (l.any p):=by
 have key:(wZ l g (l.length:Int) 0).run=some (if PL.vu p 0 l = -1 then .inl ()else .inr (PL.vu p 0 l)):=by
  refine PL.gv l (zb zZ) p (fun i h hi hp => ?_) (fun i h hi hp => ?_) (fun i hi => ?_)
  ·have hm:=vp (d:=zb zZ) h hi
   simp(disch:=omega) [qh,hi,hg _ hm,hp]
  ·have hm:=vp (d:=zb zZ) h hi
   simp(disch:=omega) [qh,hi,hg _ hm,hp]
  ·simp[qh,hi]
 have hx:(qq l g).run=some (PL.vu p 0 l):=by
  unfold qq
  rw[z6 key]
  split<;>rename_i h<;>simp[h]
 unfold qD
 rw[z6 hx,z7,PL.eV _ _ _ (Int.le_refl 0)]
theorem Wa(l:List Param)(g:Param→T Bool)(p:Param→Bool)(hg:∀ x∈l,(g x).run=some (p x))(hl:l.length≤1000000000):(qH l g).run=some (l.any p):=by
 have key:(js l g (l.length:Int) 0).run=some (if PL.vu p 0 l = -1 then .inl ()else .inr (PL.vu p 0 l)):=by
  refine PL.gv l (zb q8) p (fun i h hi hp => ?_) (fun i h hi hp => ?_) (fun i hi => ?_)
  ·have hm:=vp (d:=zb q8) h hi
   simp(disch:=omega) [xa,hi,hg _ hm,hp]
  ·have hm:=vp (d:=zb q8) h hi
   simp(disch:=omega) [xa,hi,hg _ hm,hp]
  ·simp[xa,hi]
 have hx:(xT l g).run=some (PL.vu p 0 l):=by
  unfold xT
  rw[z6 key]
  split<;>rename_i h<;>simp[h]
 unfold qH
 rw[z6 hx,z7,PL.eV _ _ _ (Int.le_refl 0)]
theorem Cv(l:List tr)(g:tr→T Bool)(p:tr→Bool)(hg:∀ x∈l,(g x).run=some (p x))(hl:l.length≤1000000000):(xI l g).run=some (l.any p):=by
 have key:(jK l g (l.length:Int) 0).run=some (if PL.vu p 0 l = -1 then .inl ()else .inr (PL.vu p 0 l)):=by
  refine PL.gv l (zb qy) p (fun i h hi hp => ?_) (fun i h hi hp => ?_) (fun i hi => ?_)
  ·have hm:=vp (d:=zb qy) h hi
   simp(disch:=omega) [xK,hi,hg _ hm,hp]
  ·have hm:=vp (d:=zb qy) h hi
   simp(disch:=omega) [xK,hi,hg _ hm,hp]
  ·simp[xK,hi]
 have hx:(wR l g).run=some (PL.vu p 0 l):=by
  unfold wR
  rw[z6 key]
  split<;>rename_i h<;>simp[h]
 unfold xI
 rw[z6 hx,z7,PL.eV _ _ _ (Int.le_refl 0)]
theorem CO(l:List uP)(g:uP→T Bool)(p:uP→Bool)(hg:∀ x∈l,(g x).run=some (p x))(hl:l.length≤1000000000):(xC l g).run=some (l.any p):=by
 have key:(jH l g (l.length:Int) 0).run=some (if PL.vu p 0 l = -1 then .inl ()else .inr (PL.vu p 0 l)):=by
  refine PL.gv l (zb zl) p (fun i h hi hp => ?_) (fun i h hi hp => ?_) (fun i hi => ?_)
  ·have hm:=vp (d:=zb zl) h hi
   simp(disch:=omega) [xG,hi,hg _ hm,hp]
  ·have hm:=vp (d:=zb zl) h hi
   simp(disch:=omega) [xG,hi,hg _ hm,hp]
  ·simp[xG,hi]
 have hx:(wU l g).run=some (PL.vu p 0 l):=by
  unfold wU
  rw[z6 key]
  split<;>rename_i h<;>simp[h]
 unfold xC
 rw[z6 hx,z7,PL.eV _ _ _ (Int.le_refl 0)]
theorem Ye(s:zf):(kV s).run=some (nL s):=by
 unfold kV nL
 cases zM s []with
 | true=>rfl
 | false=>rw[zr,z6 (dy s)]; rfl
theorem OB(f:Form)(h:FS f):(lN f).run=some (a1 f&&(a2 f&&a3 f)):=by
 have hn:=h.n
 have h1:(qD f.1 (fun z0=>vC z0)).run=some (f.1.any Ky):=ZK f.1 _ Ky (fun x _=>by
  unfold vC Ky
  exact PK (dy x.1)) (by omega)
 have h2:(qH f.2.1 (fun z0=>vI z0)).run=some (f.2.1.any fK):=Wa f.2.1 _ fK (fun x hx=>by
  have hr:=(h.p x hx).2
  have hr:qS 100000000 x.2.1:=⟨hr.1,hr.2.1,by have:=hr.2.2.1; omega,by have:=hr.2.2.2; omega⟩
  unfold vI fK
  exact VK (dy x.1) (VK (oI _ hr) (by rw[z6 (yN _ hr)]; rfl))) (by omega)
 have h3:(xI f.2.2.1 (fun z0=>vK z0)).run=some (f.2.2.1.any KC):=Cv f.2.2.1 _ KC (fun x hx=>by
  unfold vK KC
  exact VK (dy x.1) (PK (Ye _))) (by omega)
 unfold lN a1 a2 a3
 rw[z6 h1]
 cases f.1.any Ky with
 | true=>rfl
 | false =>
  rw[za (by rfl),z6 h2]
  cases f.2.1.any fK with
  | true=>rfl
  | false=>rw[za (by rfl),z6 h3,z7]; rfl
theorem JZ(pg at_ n:Int)(h:0≤at_):(bA pg at_ n).run=some (!(decide (pg<at_)||decide (n≤pg))):=by
 unfold bA
 have e1:wc at_ 0=at_:=by unfold wc; split<;>omega
 rw[e1,z7]
 by_cases q1:pg<at_<;>by_cases q2:n≤pg
 ·rw[decide_eq_true q1,decide_eq_false (by omega:¬ at_≤pg)]; rfl
 ·rw[decide_eq_true q1,decide_eq_false (by omega:¬ at_≤pg)]; rfl
 ·rw[decide_eq_true q2,decide_eq_false (by omega:¬ pg<n),Bool.and_false,Bool.or_true]; rfl
 ·rw[decide_eq_false q1,decide_eq_false q2,decide_eq_true (by omega:at_≤pg),decide_eq_true (by omega:pg<n)]; rfl
theorem WI(f:Form)(h:FS f):(fe f).run=some (a4 f):=by
 have hn:=h.n
 have key:(pH f f.2.2.2.1 (f.2.2.2.1.length:Int) (0,0)).run=some (if a4 f=true then .inl ()else .inr false):=by
  refine tN (r:=jr f f.2.2.2.1 (f.2.2.2.1.length:Int)) f.2.2.2.1 (zb qc) (UD (f.2.2.1.length:Int)) (fun x=>x.2.1) (fun at_ x h0 hb => ?_) (fun k at_ x hk hx hm h0 => ?_) (fun at_ => ?_)
  ·unfold UD at hb
   rw[Bool.or_eq_false_iff,decide_eq_false_iff_not]at hb
   exact Int.le_trans h0 (Int.not_lt.1 hb.1)
  ·unfold jr
   dsimp only
   rw[za (qQ hk),zc (zo hk),hx]
   refine(z6 (a:=(UD (f.2.2.1.length:Int) at_ x,x)) ?_ _).trans ?_
   ·refine(rN (dy x.1) (rN (JZ x.2.1 at_ _ h0) (NF (z7 _)))).trans ?_
    unfold UD
    cases w9 x.1<;>cases decide (x.2.1<at_)<;>cases decide ((f.2.2.1.length:Int)≤x.2.1)<;>cases decide (x.2.2.2.1<(0:Int))<;>cases decide ((9:Int)<x.2.2.2.1)<;>rfl
   ·dsimp only
    cases UD (f.2.2.1.length:Int) at_ x with
    | true=>rfl
    | false=>rw[zr,z7,vA k _ hk (by omega)]; rfl
  ·unfold jr
   dsimp only
   rw[z8 (xo _),z7]
 unfold fe
 rw[z6 key]
 cases a4 f<;>rfl
theorem PY(x:uP)(h1:eJ x.2.2.2.1)(h2:eJ x.2.2.2.2.1):(wC x).run=some (W3 x):=by
 unfold wC
 have e:(T.bind (ub) fun r2=>T.ite (decide ((Nat.cast (List.length r2):Int)≤x.2.1)) (.ret true) (T.bind (kV x.2.2.1) fun r3=>T.ite (!r3) (.ret true) (T.bind (uJ x.2.2.2.1) fun r4=>T.ite (!r4) (.ret true) (T.bind (uJ x.2.2.2.2.1) fun r5=>.ret (!r5))))).run
   = some (decide ((4:Int)≤x.2.1)||(!nL x.2.2.1||(!vf 0 x.2.2.2.1 || !vf 0 x.2.2.2.2.1))):=by
  unfold ub
  exact orB (VK (Ye _) (VK (UJ h1) (PK (UJ h2))))
 refine(VK (dy x.1) (orB e)).trans ?_
 unfold W3
 rw[show decide ((4:Int)≤x.2.1)=decide ((3:Int)<x.2.1)from rfl]
 cases w9 x.1<;>cases nL x.2.2.1<;>cases decide ((3:Int)<x.2.1)<;>cases decide (x.2.1<(0:Int))<;>rfl
theorem WA(f:Form)(h:FS f):(eY f).run=some (a5 f&&a6 f):=by
 have hn:=h.n
 have key:(pY f f.2.2.2.2.2.1 (f.2.2.2.2.2.1.length:Int) (0,0)).run=some (if a5 f=true then .inl ()else .inr false):=by
  refine tN (r:=jj f f.2.2.2.2.2.1 (f.2.2.2.2.2.1.length:Int)) f.2.2.2.2.2.1 (zb zn) (Uv (f.2.2.1.length:Int)) (fun x=>x.2.1) (fun at_ x h0 hb => ?_) (fun k at_ x hk hx hm h0 => ?_) (fun at_ => ?_)
  ·unfold Uv at hb
   rw[Bool.or_eq_false_iff,decide_eq_false_iff_not]at hb
   exact Int.le_trans h0 (Int.not_lt.1 hb.1)
  ·obtain⟨_,x1,x2⟩:=h.c x hm
   unfold jj
   dsimp only
   rw[za (qQ hk),zc (zo hk),hx]
   simp only[gw]
   refine(z6 (a:=(Uv (f.2.2.1.length:Int) at_ x,x)) ?_ _).trans ?_
   ·have e:(T.bind (uY) fun r2=>T.ite (decide ((Nat.cast (List.length r2):Int)≤x.2.2.1)) (.ret (true,x)) (T.bind (uJ x.2.2.2.1) fun r3=>T.ite (!r3) (.ret (true,x)) (T.bind (uJ x.2.2.2.2.1) fun r4=>.ret ((!r4),x)))).run
      = some (decide ((3:Int)≤x.2.2.1)||(!vf 0 x.2.2.2.1 || !vf 0 x.2.2.2.2.1),x):=by
     unfold uY
     exact NF (rN (UJ x1) (z5s (UJ x2)))
    refine(rN (dy x.1) (rN (JZ x.2.1 at_ _ h0) (NF e))).trans ?_
    unfold Uv
    rw[show decide ((3:Int)≤x.2.2.1)=decide ((2:Int)<x.2.2.1)from rfl]
    cases w9 x.1<;>cases decide (x.2.1<at_)<;>cases decide ((f.2.2.1.length:Int)≤x.2.1)<;>cases decide (x.2.2.1<(0:Int))<;>cases decide ((2:Int)<x.2.2.1)<;>rfl
   ·dsimp only
    cases Uv (f.2.2.1.length:Int) at_ x with
    | true=>rfl
    | false=>rw[zr,z7,vA k _ hk (by omega)]; rfl
  ·unfold jj
   dsimp only
   rw[z8 (xo _),z7]
 have h3:(xC f.2.2.2.2.1 (fun z0=>wC z0)).run=some (f.2.2.2.2.1.any W3):=CO f.2.2.2.2.1 _ W3 (fun x hx=>by
  obtain⟨_,_,x1,x2⟩:=h.r x hx
  exact PY x x1 x2) (by omega)
 unfold eY
 rw[z6 key]
 cases a5 f with
 | false=>rfl
 | true =>
  rw[if_pos rfl,Sum.elim_inl,z6 h3,z7]
  rfl
theorem Jm(s:zf)(h:s.length≤600):(iZ s).run=some (whS s):=by
 unfold iZ whS
 cases s with
 | nil=>rfl
 | cons b r=>rw[z8 (by rfl),zG _ (by simp only[List.length_cons,List.length_nil]at *; omega),z7,if_neg (by simp)]; rfl
theorem Ok(x:Field)(h:x.1.length≤600)(h1:YC 0 x.2.2.2.1)(h2:YC x.2.2.2.1 9):(mm x).run=some (fdS x):=by
 have hi:=TK x.2.2.2.1 ⟨by unfold YC at *; omega,by unfold YC at *; omega⟩
 have hl:=BP x.2.2.2.1 ⟨by unfold YC at *; omega,by unfold YC at *; omega⟩
 obtain⟨nm,pg,mu,sc,u⟩:=x
 have h:nm.length≤600:=h
 dsimp only at hi hl
 unfold mm fdS
 dsimp only
 have e:(bif mu then(cat (cat ([102,105,101,108,100,32]:zf) nm) ([32,109,117,115,116]:zf))else(cat ([102,105,101,108,100,32]:zf) nm))=fhS (nm,pg,mu,sc,u):=rfl
 have hf:(fhS (nm,pg,mu,sc,u)).length≤nm.length+11:=Bf _
 rw[zG _ (by simp only[List.length_cons,List.length_nil]; omega),zc (fun _=>by simp only[qi,List.length_cons,List.length_nil]; omega),e]
 by_cases hs:ilt 0 sc
 ·rw[za (decide_eq_true hs),z6 hi,zG _ (by simp only[List.length_cons,List.length_nil]; omega),zG _ (by simp only[qi,List.length_cons,List.length_nil]; omega),zG _ (by simp only[qi,List.length_cons,List.length_nil]; omega),z7,if_pos hs]
  rfl
 ·rw[z8 (decide_eq_false hs),zG _ (by simp only[List.length_cons,List.length_nil]; omega),z7,if_neg hs]
  rfl
theorem H7(l r:Expr)(s:zf)(hs:s.length≤8)(h1:eJ l)(h2:eJ r)(o1:vf 0 l=true)(o2:vf 0 r=true):(dE l s r).run=some (siS l s r):=by
 have l1:=dB h1 o1
 have l2:=dB h2 o2
 unfold dE
 rw[z6 (Mw h1 o1)]
 rw[zG _ (by simp only[List.length_cons,List.length_nil]; omega),zG _ (by simp only[qi,List.length_cons,List.length_nil]; omega),zG _ (by simp only[qi,List.length_cons,List.length_nil]; omega),zG _ (by simp only[qi,List.length_cons,List.length_nil]; omega)]
 rw[z6 (Mw h2 o2)]
 rw[zG _ (by simp only[qi,List.length_cons,List.length_nil]; omega),zG _ (by simp only[qi,List.length_cons,List.length_nil]; omega),z7]
 rfl
theorem z25(n:Int)(h:0≤n)(h2:n≤2):nth ([([61]:zf),([60]:zf),([60,61]:zf)]:List zf) n (zb .str)=YK n:=by
 have:n=0∨n=1∨n=2:=by omega
 rcases this with rfl | rfl | rfl<;>rfl
theorem z2Y(n:Int)(h:0≤n)(h2:n≤3):nth ([([114,101,113,117,105,114,101,100]:zf),([115,116,114,111,110,103]:zf),([109,101,100,105,117,109]:zf),([119,101,97,107]:zf)]:List zf) n (zb .str)=EG n:=by
 have:n=0∨n=1∨n=2∨n=3:=by omega
 rcases this with rfl | rfl | rfl | rfl<;>rfl
theorem z0n(f:Form)(h:P0 f)(i:Nat)(hi:i<f.2.2.1.length)(b:zf)(hb:b.length≤100000000000):(fc f (i:Int) () (bytesOf b)).run=some ((),bytesOf (b++Ma f i)):=by
 have hn:=h.n
 obtain⟨g1,g2⟩:=MI h hi
 have hp:=MF _ g1 g2
 have hw:=tL (nth f.2.2.1 (i:Int) (zb qy)).2.1
 have k1:∀ s:zf,s.length≤200000000000→(pI (i:Int) f f.2.2.2.1 (f.2.2.2.1.length:Int) (0,(),bytesOf s)).run=some ((),bytesOf (s++f.2.2.2.1.flatMap (Pb i))):=fun s hs=>by
  refine mS (r:=jh (i:Int) f f.2.2.2.1 (f.2.2.2.1.length:Int)) f.2.2.2.1 (zb qc) 4000000 400000000000 (Pb i) s (fun k b x hk hx hm hb => ?_) (fun b => ?_) (Xw h i) (by omega)
  ·unfold jh Pb
   dsimp only
   rw[za (qQ hk),zc (zo hk),hx]
   cases hc:x.2.1==(i:Int)with
   | true =>
    have fl:=Bz x (h.d x hm) (h.d2 x hm).1 (h.d2 x hm).2
    rw[zD,z6 (Ok x (h.d x hm) (h.d2 x hm).1 (h.d2 x hm).2),ze _ rfl rfl rfl,T.zk,z6 (uc (fdS x) b (by omega))]
    dsimp only
    rw[ze _ rfl rfl rfl,T.zk,z7,vA k _ hk (by omega),if_pos rfl]
   | false =>
    rw[zr,ze _ rfl rfl rfl,T.zk,z7,vA k _ hk (by omega),if_neg (by decide),List.append_nil]
  ·unfold jh
   dsimp only
   rw[z8 (xo _),ze _ rfl rfl rfl,T.zk,z7]
 have k2:∀ s:zf,s.length≤400000000000→(pQ (i:Int) f.2.2.2.2.2.1 (f.2.2.2.2.2.1.length:Int) (0,(),bytesOf s)).run=some ((),bytesOf (s++f.2.2.2.2.2.1.flatMap (ckI i))):=fun s hs=>by
  refine mS (r:=jq (i:Int) f.2.2.2.2.2.1 (f.2.2.2.2.2.1.length:Int)) f.2.2.2.2.2.1 (zb zn) 4000000 800000000000 (ckI i) s (fun k b x hk hx hm hb => ?_) (fun b => ?_) (B8 h i) (by omega)
  ·unfold jq ckI
   dsimp only
   rw[za (qQ hk),zc (zo hk),hx]
   cases hc:x.2.1==(i:Int)with
   | true =>
    obtain⟨q1,q2,q3⟩:=h.c x hm
    obtain⟨c1,c2,o1,o2⟩:=h.c2 x hm
    have cl:=N6 x q1 q2 q3 o1 o2
    have hs:=H7 x.2.2.2.1 x.2.2.2.2.1 (YK x.2.2.1) (by have:=XY x.2.2.1; omega) q2 q3 o1 o2
    have sl:=UK (YK x.2.2.1) (by have:=XY x.2.2.1; omega) q2 q3 o1 o2
    unfold uY
    rw[zD,zG _ (by simp only[List.length_cons,List.length_nil]; omega)]
    simp only[T.bind,gw]
    have c3:x.2.2.1<((3:Nat):Int):=Int.lt_of_le_of_lt c2 (by decide)
    rw[zc ⟨c1,c3⟩,z25 _ c1 c2,z6 hs,zG _ (by simp only[qi,List.length_cons,List.length_nil]; omega),ze _ rfl rfl rfl,zP]
    have e:cat (cat ([99,104,101,99,107,32]:zf) x.1) (siS x.2.2.2.1 (YK x.2.2.1) x.2.2.2.2.1)=ckS x:=rfl
    rw[e,z6 (uc (ckS x) b (by omega))]
    dsimp only
    rw[ze _ rfl rfl rfl,zP,z7,vA k _ hk (by omega),if_pos trivial]
   | false =>
    rw[zr,ze _ rfl rfl rfl,T.zk,z7,vA k _ hk (by omega),if_neg (by decide),List.append_nil]
  ·unfold jq
   dsimp only
   rw[z8 (xo _),ze _ rfl rfl rfl,T.zk,z7]
 have l2:=j4 (Pb i) f.2.2.2.1 4000000 (Xw h i)
 have:f.2.2.2.1.length*4000000≤30*4000000:=Nat.mul_le_mul_right _ (by omega)
 unfold fc
 rw[zc (zo hi),zG _ (by simp only[List.length_cons,List.length_nil]; omega),zc (zo hi),z6 (Jm _ g2),zG _ (by simp only[qi,List.length_cons,List.length_nil]; omega),zG _ (by simp only[qi,List.length_cons,List.length_nil]; omega),ze _ rfl rfl rfl,T.zk]
 have e:cat (cat (cat ([112,97,103,101,32]:zf) (nth f.2.2.1 (i:Int) (zb qy)).1) (whS (nth f.2.2.1 (i:Int) (zb qy)).2.1)) ([10]:zf)=phS (nth f.2.2.1 (i:Int) (zb qy)):=rfl
 rw[e,z6 (uc _ b (by omega))]
 dsimp only
 rw[ze _ rfl rfl rfl,T.zk,z6 (k1 _ (by rw[List.length_append]; omega))]
 dsimp only
 rw[ze _ rfl rfl rfl,T.zk,z6 (k2 _ (by rw[List.length_append,List.length_append]; omega))]
 dsimp only
 rw[ze _ rfl rfl rfl,T.zk,z7]
 unfold Ma
 simp only[List.append_assoc]
theorem G9(n k:Nat)(h:k<n):nth (List.range n) (k:Int) 0=k:=by
 rw[xh (by rw[List.length_range]; exact h),List.getElem_range]
theorem Ed{f:Form}(h:P0 f):(f.1.flatMap Pd).length≤f.1.length*4000000:=j4 Pd f.1 4000000 fun x hx=>UW x (h.s x hx)
theorem CS{f:Form}(h:P0 f):(f.2.1.flatMap Iv).length≤f.2.1.length*4000000:=j4 Iv f.2.1 4000000 fun x hx=>UQ x (h.p x hx).1 (h.p x hx).2
theorem Dp{f:Form}(h:P0 f):((List.range f.2.2.1.length).flatMap (Ma f)).length≤f.2.2.1.length*300000000:=by
 have:=j4 (Ma f) (List.range f.2.2.1.length) 300000000 (fun x hx=>Hj h (List.mem_range.1 hx))
 rwa [List.length_range]at this
theorem DT{f:Form}(h:P0 f):(f.2.2.2.2.1.flatMap LY).length≤f.2.2.2.2.1.length*4000000:=j4 LY f.2.2.2.2.1 4000000 fun x hx=>by
 obtain⟨q1,q2,q3,q4⟩:=h.r x hx
 obtain⟨_,_,o1,o2⟩:=h.r2 x hx
 exact Jc x q1 q2 q3 q4 o1 o2
theorem Uu(f:Form)(h:P0 f):(lC f).run=some (frS f):=by
 have hn:=h.n
 have m1:=Ed h
 have m2:=CS h
 have m3:=Dp h
 have m4:=DT h
 have k1:(te f f.1 (f.1.length:Int) (0,(),bytesOf [])).run=some ((),bytesOf ([]++f.1.flatMap Pd)):=by
  refine mS (r:=kA f f.1 (f.1.length:Int)) f.1 (zb zZ) 4000000 100000000000 Pd [] (fun k b x hk hx hm hb => ?_) (fun b => ?_) (fun x hx=>UW x (h.s x hx)) (by simp only[List.length_nil]; omega)
  ·have q:=h.s x hm
   have sl:=UW x q
   have bl:(bif x.2.1 then([32,111,110,10]:zf)else[32,111,102,102,10]).length≤5:=by cases x.2.1<;>decide
   unfold kA
   dsimp only
   rw[za (qQ hk),zc (zo hk),hx,zG _ (by simp only[List.length_cons,List.length_nil]; omega),zG _ (by simp only[qi,List.length_cons,List.length_nil]; omega),ze _ rfl rfl rfl,T.zk]
   have e:cat (cat ([115,119,105,116,99,104,32]:zf) x.1) (bif x.2.1 then([32,111,110,10]:zf)else([32,111,102,102,10]:zf))=Pd x:=rfl
   rw[e,z6 (uc (Pd x) b (by omega))]
   dsimp only
   rw[ze _ rfl rfl rfl,T.zk,z7,vA k _ hk (by omega)]
  ·unfold kA
   dsimp only
   rw[z8 (xo _),ze _ rfl rfl rfl,T.zk,z7]
 have k2:∀ s:zf,s.length≤1000000000→(sB f f.2.1 (f.2.1.length:Int) (0,(),bytesOf s)).run=some ((),bytesOf (s++f.2.1.flatMap Iv)):=fun s hs=>by
  refine mS (r:=kS f f.2.1 (f.2.1.length:Int)) f.2.1 (zb q8) 4000000 100000000000 Iv s (fun k b x hk hx hm hb => ?_) (fun b => ?_) (fun x hx=>UQ x (h.p x hx).1 (h.p x hx).2) (by omega)
  ·obtain⟨q,hr⟩:=h.p x hm
   have hr:qS 1000 x.2.1:=⟨hr.1,hr.2.1,by have:=hr.2.2.1; omega,by have:=hr.2.2.2; omega⟩
   have sl:=UQ x q (h.p x hm).2
   have hd:(nt (x.2.1.1,(x.2.1.2.1,(x.2.1.2.2.1,())))).run=some (eB (norm x.2.1)):=YA x.2.1 hr
   have pl:=QG _ hr
   unfold kS
   dsimp only
   rw[za (qQ hk),zc (zo hk),hx,zG _ (by simp only[List.length_cons,List.length_nil]; omega),zG _ (by simp only[qi,List.length_cons,List.length_nil]; omega),z6 hd,zG _ (by simp only[qi,List.length_cons,List.length_nil]; omega),zG _ (by simp only[qi,List.length_cons,List.length_nil]; omega),ze _ rfl rfl rfl,T.zk]
   have e:cat (cat (cat (cat ([112,97,114,97,109,32]:zf) x.1) ([32]:zf)) (eB (norm x.2.1))) ([10]:zf)=Iv x:=rfl
   rw[e,z6 (uc (Iv x) b (by omega))]
   dsimp only
   rw[ze _ rfl rfl rfl,T.zk,z7,vA k _ hk (by omega)]
  ·unfold kS
   dsimp only
   rw[z8 (xo _),ze _ rfl rfl rfl,T.zk,z7]
 have k3:∀ s:zf,s.length≤2000000000→(sb f (f.2.2.1.length:Int) (0,(),bytesOf s)).run=some ((),bytesOf (s++(List.range f.2.2.1.length).flatMap (Ma f))):=fun s hs=>by
  refine mS (r:=kt f (f.2.2.1.length:Int)) (List.range f.2.2.1.length) 0 300000000 100000000000 (Ma f) s (fun k b x hk hx hm hb => ?_) (fun b => ?_) (fun x hx=>Hj h (List.mem_range.1 hx)) (by rw[List.length_range]; omega)
  ·rw[List.length_range]at hk
   rw[G9 _ _ hk]at hx
   subst hx
   unfold kt
   dsimp only
   rw[za (qQ hk),ze _ rfl rfl rfl,T.zk,z6 (z0n f h k hk b (by omega))]
   dsimp only
   rw[ze _ rfl rfl rfl,T.zk,z7,vA k _ hk (by omega)]
  ·unfold kt
   dsimp only
   rw[List.length_range,z8 (xo _),ze _ rfl rfl rfl,T.zk,z7]
 have k4:∀ s:zf,s.length≤20000000000→(sD f.2.2.2.2.1 (f.2.2.2.2.1.length:Int) (0,(),bytesOf s)).run=some ((),bytesOf (s++f.2.2.2.2.1.flatMap LY)):=fun s hs=>by
  refine mS (r:=jX f.2.2.2.2.1 (f.2.2.2.2.1.length:Int)) f.2.2.2.2.1 (zb zl) 4000000 100000000000 LY s (fun k b x hk hx hm hb => ?_) (fun b => ?_) (fun x hx=>by
   obtain⟨q1,q2,q3,q4⟩:=h.r x hx
   obtain⟨_,_,o1,o2⟩:=h.r2 x hx
   exact Jc x q1 q2 q3 q4 o1 o2) (by omega)
  ·obtain⟨q1,q2,q3,q4⟩:=h.r x hm
   obtain⟨c1,c2,o1,o2⟩:=h.r2 x hm
   have rl:=Jc x q1 q2 q3 q4 o1 o2
   have hs:=H7 x.2.2.2.1 x.2.2.2.2.1 [61] (by decide) q3 q4 o1 o2
   have sl:=UK [61] (by decide) q3 q4 o1 o2
   have tl:=Yc x.2.1
   have wl:=tL x.2.2.1
   have c3:x.2.1<((4:Nat):Int):=Int.lt_of_le_of_lt c2 (by decide)
   unfold jX ub
   dsimp only
   rw[za (qQ hk),zc (zo hk),hx]
   simp only[T.bind,gw]
   rw[zc ⟨c1,c3⟩,z2Y _ c1 c2,zG _ (by simp only[List.length_cons,List.length_nil]; omega),zG _ (by simp only[qi,List.length_cons,List.length_nil]; omega),zG _ (by simp only[qi,List.length_cons,List.length_nil]; omega),z6 (Jm _ q2),
    zG _ (by simp only[qi,List.length_cons,List.length_nil]; omega),z6 hs,zG _ (by simp only[qi,List.length_cons,List.length_nil]; omega),ze _ rfl rfl rfl,zP]
   have e:cat (cat (cat (cat (cat ([114,117,108,101,32]:zf) (EG x.2.1)) ([32]:zf)) x.1) (whS x.2.2.1)) (siS x.2.2.2.1 [61] x.2.2.2.2.1)=LY x:=rfl
   rw[e,z6 (uc (LY x) b (by omega))]
   dsimp only
   rw[ze _ rfl rfl rfl,zP,z7,vA k _ hk (by omega)]
  ·unfold jX
   dsimp only
   rw[z8 (xo _),ze _ rfl rfl rfl,T.zk,z7]
 unfold lC
 rw[ze _ rfl rfl rfl,T.zk]
 refine(z6 k1 _).trans ?_
 dsimp only
 rw[List.nil_append,ze _ rfl rfl rfl,T.zk,z6 (k2 _ (by omega))]
 dsimp only
 rw[ze _ rfl rfl rfl,T.zk,z6 (k3 _ (by rw[List.length_append]; omega))]
 dsimp only
 rw[ze _ rfl rfl rfl,T.zk,z6 (k4 _ (by simp only[List.length_append]; omega))]
 dsimp only
 rw[ze _ rfl rfl rfl,T.zk,z6 (YM _ (by simp only[List.length_append]; omega))]
 rfl
def rm(f:Form):Bool:=a1 f&&(a2 f&&(a3 f&&(a4 f&&(a5 f&&(a6 f&&decide (((frS f).length:Int)≤16384))))))
theorem HY(f:Form)(h:FS f):(QR f).run=some (rm f):=by
 unfold QR rm
 rw[z6 (OB f h)]
 cases a1 f with
 | false=>rfl
 | true =>
 cases a2 f with
 | false=>rfl
 | true =>
 cases a3 f with
 | false=>rfl
 | true =>
 rw[za (by rfl),z6 (WI f h)]
 cases h4:a4 f with
 | false=>rfl
 | true =>
 rw[za (by rfl),z6 (WA f h)]
 cases h5:a5 f with
 | false=>rfl
 | true =>
 cases h6:a6 f with
 | false=>rfl
 | true =>
 rw[za (by rfl),z6 (Uu f (z4I h h4 h5 h6)),z7]
 rfl
theorem z5o{r:Rat}(hr:qS 100 r):qS 100000000 r:=⟨hr.1,hr.2.1,by have:=hr.2.2.1; omega,by have:=hr.2.2.2; omega⟩
theorem z2k{r:Rat}(hr:qS 100 r):qS 1000 r:=⟨hr.1,hr.2.1,by have:=hr.2.2.1; omega,by have:=hr.2.2.2; omega⟩
theorem H3(s:zf):(iW s).run=some (nL s):=by
 unfold iW nL
 cases zM s []with
 | true=>rfl
 | false=>rw[zr,z6 (vv s)]; rfl
theorem JS(f:Form)(h:FS f):(ou f).run=some (a4 f&&a5 f):=by
 have hn:=h.n
 have k1:(ZJ f (0,0)).run=some (if a4 f=true then .inl ()else .inr false):=by
  refine tN (r:=yJ f) f.2.2.2.1 (zb qc) (UD (f.2.2.1.length:Int)) (fun x=>x.2.1) (fun at_ x h0 hb => ?_) (fun k at_ x hk hx hm h0 => ?_) (fun at_ => ?_)
  ·unfold UD at hb
   rw[Bool.or_eq_false_iff,decide_eq_false_iff_not]at hb
   exact Int.le_trans h0 (Int.not_lt.1 hb.1)
  ·unfold yJ
   dsimp only
   rw[za (qQ hk),zc (zo hk),hx]
   refine(z6 (a:=(UD (f.2.2.1.length:Int) at_ x,x)) ?_ _).trans ?_
   ·exact NF (NF (rN (vv x.1) (NF (z7 _))))
   ·dsimp only
    cases UD (f.2.2.1.length:Int) at_ x with
    | true=>rfl
    | false=>rw[zr,z7,vA k _ hk (by omega)]; rfl
  ·unfold yJ
   dsimp only
   rw[z8 (xo _),z7]
 have k2:(ZL f (0,0)).run=some (if a5 f=true then .inl ()else .inr false):=by
  refine tN (r:=yU f) f.2.2.2.2.2.1 (zb zn) (Uv (f.2.2.1.length:Int)) (fun x=>x.2.1) (fun at_ x h0 hb => ?_) (fun k at_ x hk hx hm h0 => ?_) (fun at_ => ?_)
  ·unfold Uv at hb
   rw[Bool.or_eq_false_iff,decide_eq_false_iff_not]at hb
   exact Int.le_trans h0 (Int.not_lt.1 hb.1)
  ·obtain⟨_,x1,x2⟩:=h.c x hm
   unfold yU
   dsimp only
   rw[za (qQ hk),zc (zo hk),hx]
   simp only[gw]
   refine(z6 (a:=(Uv (f.2.2.1.length:Int) at_ x,x)) ?_ _).trans ?_
   ·exact NF (NF (rN (vv x.1) (NF (NF (rN (Wj x1) (z5s (Wj x2)))))))
   ·dsimp only
    cases Uv (f.2.2.1.length:Int) at_ x with
    | true=>rfl
    | false=>rw[zr,z7,vA k _ hk (by omega)]; rfl
  ·unfold yU
   dsimp only
   rw[z8 (xo _),z7]
 unfold ou
 rw[z6 k1]
 cases a4 f with
 | false=>rfl
 | true =>
  rw[if_pos rfl,Sum.elim_inl,z6 k2]
  cases a5 f<;>rfl
theorem ZZ(s:zf)(h:s.length≤600):(Z3 s).run=some (whS s):=Jm s h
theorem En(n:Int)(h1:1≤n)(h2:n≤9):qV [MR (zu (48+n))]=pO n:=by
 have:n=1∨n=2∨n=3∨n=4∨n=5∨n=6∨n=7∨n=8∨n=9:=by omega
 have e:∀ k:Nat,k<10→pO (k:Int)=[UInt8.ofNat (48+k)]:=fun k hk=>by
  unfold pO
  rw[if_neg (by omega),Int.toNat_natCast,AM.Jd,dif_pos hk]
 rcases this with rfl | rfl | rfl | rfl | rfl | rfl | rfl | rfl | rfl
 ·exact(e 1 (by decide)).symm
 ·exact(e 2 (by decide)).symm
 ·exact(e 3 (by decide)).symm
 ·exact(e 4 (by decide)).symm
 ·exact(e 5 (by decide)).symm
 ·exact(e 6 (by decide)).symm
 ·exact(e 7 (by decide)).symm
 ·exact(e 8 (by decide)).symm
 ·exact(e 9 (by decide)).symm
theorem JD(x:Field)(h:x.1.length≤600)(h1:YC 0 x.2.2.2.1)(h2:YC x.2.2.2.1 9):(oi x).run=some (fdS x):=by
 have hi:=fun h0:YC 1 x.2.2.2.1=>En x.2.2.2.1 h0 h2
 have hb:(qV ([(MR (zu ((48:Int)+x.2.2.2.1)))]:List Int)).length=1:=rfl
 have hz:¬ ilt 0 x.2.2.2.1→x.2.2.2.1=(0:Int):=fun q=>Int.le_antisymm (Int.not_lt.1 q) h1
 have ho:ilt 0 x.2.2.2.1→YC 1 x.2.2.2.1:=fun q=>by unfold YC ilt at *; omega
 have hf:(fhS x).length≤x.1.length+11:=Bf _
 unfold oi fdS
 have e:(bif x.2.2.1 then(cat (cat ([102,105,101,108,100,32]:zf) x.1) ([32,109,117,115,116]:zf))else(cat ([102,105,101,108,100,32]:zf) x.1))=fhS x:=rfl
 rw[zG _ (by simp only[List.length_cons,List.length_nil]; omega),zc (fun _=>by simp only[qi,List.length_cons,List.length_nil]; omega),e]
 clear e
 by_cases hs:ilt 0 x.2.2.2.1
 ·have uv:(x.2.2.2.1 != (0:Int))=true:=by
   rw[bne_iff_ne]; intro q; unfold ilt at hs; rw[q]at hs; exact absurd hs (by decide)
  rw[za uv,zG _ (by simp only[List.length_cons,List.length_nil]; omega),zG _ (by simp only[qi,List.length_cons,List.length_nil]; omega),zG _ (by simp only[qi,List.length_cons,List.length_nil]; omega),z7,if_pos hs,hi (ho hs)]
  simp only[cA,List.append_assoc]
 ·have uv:(x.2.2.2.1 != (0:Int))=false:=by rw[hz hs]; rfl
  rw[z8 uv,zG _ (by simp only[List.length_cons,List.length_nil]; omega),z7,if_neg hs]
  rfl
theorem z1N(n:Int):(Xm n).run=some (YK n):=by
 unfold Xm YK
 by_cases h1:n=1
 ·rw[if_pos h1,za (by rw[h1]; rfl),z7]
 ·rw[if_neg h1,z8 (by simpa using h1)]
  by_cases h2:n=2
  ·rw[if_pos h2,za (by rw[h2]; rfl),z7]
  ·rw[if_neg h2,z8 (by simpa using h2),z7]
theorem HK(n:Int):(cU n).run=some (EG n):=by
 unfold cU EG
 by_cases h0:n=0
 ·rw[if_pos h0,za (by rw[h0]; rfl),z7]
 ·rw[if_neg h0,z8 (by simpa using h0)]
  by_cases h1:n=1
  ·rw[if_pos h1,za (by rw[h1]; rfl),z7]
  ·rw[if_neg h1,z8 (by simpa using h1)]
   by_cases h2:n=2
   ·rw[if_pos h2,za (by rw[h2]; rfl),z7]
   ·rw[if_neg h2,z8 (by simpa using h2),z7]
theorem YO(f:Form)(h:P0 f):(tP f).run=some (frS f):=by
 have hn:=h.n
 have m1:=Ed h
 have m2:=CS h
 have m3:=Dp h
 have m4:=DT h
 have k1:(Wm f ([],0)).run=some ([]++f.1.flatMap Pd):=by
  refine mL (r:=bG f) f.1 (zb zZ) 4000000 100000000000 Pd [] (fun k b x hk hx hm hb => ?_) (fun b => ?_) (fun x hx=>UW x (h.s x hx)) (by simp only[List.length_nil]; omega)
  ·have q:=h.s x hm
   have bl:(bif x.2.1 then([32,111,110,10]:zf)else[32,111,102,102,10]).length≤5:=by cases x.2.1<;>decide
   unfold bG
   dsimp only
   rw[hx,za (qQ hk),zc (zo hk),zG _ (by simp only[qi,List.length_cons,List.length_nil]; omega),zc (zo hk),zG _ (by simp only[qi,List.length_cons,List.length_nil]; omega),zG _ (by simp only[qi,List.length_cons,List.length_nil]; omega),z7,vA k _ hk (by omega)]
   unfold Pd
   simp only[cA,List.append_assoc]
  ·unfold bG
   dsimp only
   rw[z8 (xo _),z7]
 have k2:∀ s:zf,s.length≤1000000000→(XX f (s,0)).run=some (s++f.2.1.flatMap Iv):=fun s hs=>by
  refine mL (r:=bn f) f.2.1 (zb q8) 4000000 100000000000 Iv s (fun k b x hk hx hm hb => ?_) (fun b => ?_) (fun x hx=>UQ x (h.p x hx).1 (h.p x hx).2) (by omega)
  ·obtain⟨q,hr⟩:=h.p x hm
   have hr:=z2k hr
   have pl:=QG _ hr
   unfold bn
   dsimp only
   rw[hx,za (qQ hk),zG _ (by simp only[qi,List.length_cons,List.length_nil]; omega),zc (zo hk),zG _ (by simp only[qi,List.length_cons,List.length_nil]; omega),zG _ (by simp only[qi,List.length_cons,List.length_nil]; omega),zc (zo hk),z6 (KX _ hr),
    zG _ (by simp only[qi,List.length_cons,List.length_nil]; omega),zG _ (by simp only[qi,List.length_cons,List.length_nil]; omega),z7,vA k _ hk (by omega)]
   unfold Iv
   simp only[cA,List.append_assoc]
  ·unfold bn
   dsimp only
   rw[z8 (xo _),z7]
 have j1:∀ (i:Nat) (s:zf),s.length≤200000000000→(X9 f (i:Int) (s,0)).run=some (s++f.2.2.2.1.flatMap (Pb i)):=fun i s hs=>by
  refine mL (r:=c6 f (i:Int)) f.2.2.2.1 (zb qc) 4000000 400000000000 (Pb i) s (fun k b x hk hx hm hb => ?_) (fun b => ?_) (Xw h i) (by omega)
  ·unfold c6 Pb
   dsimp only
   rw[hx,za (qQ hk),zc (zo hk)]
   cases hc:x.2.1==(i:Int)with
   | true =>
    have fl:=Bz x (h.d x hm) (h.d2 x hm).1 (h.d2 x hm).2
    rw[zD,zc (zo hk),z6 (JD x (h.d x hm) (h.d2 x hm).1 (h.d2 x hm).2),zG _ (by omega),z7,vA k _ hk (by omega),if_pos rfl,cA]
   | false=>rw[zr,z7,vA k _ hk (by omega),if_neg (by decide),List.append_nil]
  ·unfold c6
   dsimp only
   rw[z8 (xo _),z7]
 have j2:∀ (i:Nat) (s:zf),s.length≤400000000000→(Wl f (i:Int) (s,0)).run=some (s++f.2.2.2.2.2.1.flatMap (ckI i)):=fun i s hs=>by
  refine mL (r:=c8 f (i:Int)) f.2.2.2.2.2.1 (zb zn) 4000000 800000000000 (ckI i) s (fun k b x hk hx hm hb => ?_) (fun b => ?_) (B8 h i) (by omega)
  ·unfold c8 ckI
   dsimp only
   rw[hx,za (qQ hk),zc (zo hk)]
   simp only[gw]
   cases hc:x.2.1==(i:Int)with
   | true =>
    obtain⟨q1,q2,q3⟩:=h.c x hm
    obtain⟨c1,c2,o1,o2⟩:=h.c2 x hm
    have p1:=dB q2 o1
    have p2:=dB q3 o2
    have cl:=XY x.2.2.1
    rw[zD,zG _ (by simp only[qi,List.length_cons,List.length_nil]; omega),zG _ (by simp only[qi,List.length_cons,List.length_nil]; omega),zG _ (by simp only[qi,List.length_cons,List.length_nil]; omega),z6 (Xo q2 o1),
     zG _ (by simp only[qi,List.length_cons,List.length_nil]; omega),zG _ (by simp only[qi,List.length_cons,List.length_nil]; omega),z6 (z1N _),zG _ (by simp only[qi,List.length_cons,List.length_nil]; omega),zG _ (by simp only[qi,List.length_cons,List.length_nil]; omega),
     z6 (Xo q3 o2),zG _ (by simp only[qi,List.length_cons,List.length_nil]; omega),zG _ (by simp only[qi,List.length_cons,List.length_nil]; omega),z7,vA k _ hk (by omega),if_pos rfl]
    unfold ckS siS
    simp only[cA,List.append_assoc]
   | false=>rw[zr,z7,vA k _ hk (by omega),if_neg (by decide),List.append_nil]
  ·unfold c8
   dsimp only
   rw[z8 (xo _),z7]
 have k3:∀ s:zf,s.length≤2000000000→(XK f (s,0)).run=some (s++(List.range f.2.2.1.length).flatMap (Ma f)):=fun s hs=>by
  refine mL (r:=bu f) (List.range f.2.2.1.length) 0 300000000 100000000000 (Ma f) s (fun k b x hk hx hm hb => ?_) (fun b => ?_) (fun x hx=>Hj h (List.mem_range.1 hx)) (by rw[List.length_range]; omega)
  ·rw[List.length_range]at hk
   rw[G9 _ _ hk]at hx
   subst hx
   obtain⟨g1,g2⟩:=MI h hk
   have hw:=tL (nth f.2.2.1 (k:Int) (zb qy)).2.1
   have fl:=j4 (Pb k) f.2.2.2.1 4000000 (Xw h k)
   have:f.2.2.2.1.length*4000000≤30*4000000:=Nat.mul_le_mul_right _ (by omega)
   unfold bu
   dsimp only
   rw[za (qQ hk),zG _ (by simp only[qi,List.length_cons,List.length_nil]; omega),zc (zo hk),zG _ (by simp only[qi,List.length_cons,List.length_nil]; omega),zc (zo hk),z6 (ZZ _ g2),zG _ (by simp only[qi,List.length_cons,List.length_nil]; omega),zG _ (by simp only[qi,List.length_cons,List.length_nil]; omega),
    z6 (j1 k _ (by simp only[qi,List.length_cons,List.length_nil]; omega)),z6 (j2 k _ (by simp only[List.length_append,qi,List.length_cons,List.length_nil]; omega)),z7,vA k _ hk (by omega)]
   unfold Ma phS
   simp only[cA,List.append_assoc]
  ·unfold bu
   dsimp only
   rw[List.length_range,z8 (xo _),z7]
 have k4:∀ s:zf,s.length≤20000000000→(Xp f (s,0)).run=some (s++f.2.2.2.2.1.flatMap LY):=fun s hs=>by
  refine mL (r:=bY f) f.2.2.2.2.1 (zb zl) 4000000 100000000000 LY s (fun k b x hk hx hm hb => ?_) (fun b => ?_) (fun x hx=>by
   obtain⟨q1,q2,q3,q4⟩:=h.r x hx
   obtain⟨_,_,o1,o2⟩:=h.r2 x hx
   exact Jc x q1 q2 q3 q4 o1 o2) (by omega)
  ·obtain⟨q1,q2,q3,q4⟩:=h.r x hm
   obtain⟨c1,c2,o1,o2⟩:=h.r2 x hm
   have p1:=dB q3 o1
   have p2:=dB q4 o2
   have tl:=Yc x.2.1
   have wl:=tL x.2.2.1
   unfold bY
   dsimp only
   rw[hx,za (qQ hk),zc (zo hk)]
   simp only[gw]
   rw[zG _ (by simp only[qi,List.length_cons,List.length_nil]; omega),z6 (HK _),zG _ (by simp only[qi,List.length_cons,List.length_nil]; omega),zG _ (by simp only[qi,List.length_cons,List.length_nil]; omega),zG _ (by simp only[qi,List.length_cons,List.length_nil]; omega),z6 (ZZ _ q2),
    zG _ (by simp only[qi,List.length_cons,List.length_nil]; omega),zG _ (by simp only[qi,List.length_cons,List.length_nil]; omega),z6 (Xo q3 o1),zG _ (by simp only[qi,List.length_cons,List.length_nil]; omega),zG _ (by simp only[qi,List.length_cons,List.length_nil]; omega),z6 (Xo q4 o2),
    zG _ (by simp only[qi,List.length_cons,List.length_nil]; omega),zG _ (by simp only[qi,List.length_cons,List.length_nil]; omega),z7,vA k _ hk (by omega)]
   unfold LY siS
   simp only[cA,List.append_assoc,List.cons_append,List.nil_append]
  ·unfold bY
   dsimp only
   rw[z8 (xo _),z7]
 unfold tP
 rw[z6 k1,List.nil_append,z6 (k2 _ (by omega)),z6 (k3 _ (by rw[List.length_append]; omega)),z6 (k4 _ (by simp only[List.length_append]; omega)),z7]
 rfl
theorem Cc(f:Form)(h:FS f):(J2 f).run=some (rm f):=by
 have hn:=h.n
 have k1:(Jn f 0).run=some (if f.1.any Ky=true then .inr false else .inl ()):=by
  refine W6 (r:=ij f) f.1 (zb zZ) Ky (fun k x hk hx hm => ?_) ?_
  ·unfold ij Ky
   dsimp only
   rw[za (qQ hk),zc (zo hk),hx,z6 (vv x.1)]
   cases w9 x.1 with
   | true=>rw[z8 (by rfl),z7,vA k _ hk (by omega)]; rfl
   | false=>rfl
  ·unfold ij
   rw[z8 (xo _),z7]
 have k2:(KH f 0).run=some (if f.2.1.any fK=true then .inr false else .inl ()):=by
  refine W6 (r:=fY f) f.2.1 (zb q8) fK (fun k x hk hx hm => ?_) ?_
  ·unfold fY
   dsimp only
   rw[za (qQ hk)]
   refine(z6 (a:=fK x) ?_ _).trans ?_
   ·rw[zc (zo hk),hx]
    refine(VK (vv x.1) ((zc (zo hk) _).trans (PK (mo _ (z5o (h.p x hm).2))))).trans ?_
    unfold fK
    cases eG x.2.1<;>cases wX x.2.1<;>rfl
   ·cases fK x with
    | true=>rfl
    | false=>rw[zr,z7,vA k _ hk (by omega)]; rfl
  ·unfold fY
   rw[z8 (xo _),z7]
 have k3:(JF f 0).run=some (if f.2.2.1.any KC=true then .inr false else .inl ()):=by
  refine W6 (r:=fZ f) f.2.2.1 (zb qy) KC (fun k x hk hx hm => ?_) ?_
  ·unfold fZ
   dsimp only
   rw[za (qQ hk)]
   refine(z6 (a:=KC x) ?_ _).trans ?_
   ·rw[zc (zo hk),hx]
    exact VK (vv x.1) ((zc (zo hk) _).trans (PK (H3 _)))
   ·cases KC x with
    | true=>rfl
    | false=>rw[zr,z7,vA k _ hk (by omega)]; rfl
  ·unfold fZ
   rw[z8 (xo _),z7]
 have k4:(K0 f 0).run=some (if f.2.2.2.2.1.any W3=true then .inr false else .inl ()):=by
  refine W6 (r:=ik f) f.2.2.2.2.1 (zb zl) W3 (fun k x hk hx hm => ?_) ?_
  ·obtain⟨_,_,x1,x2⟩:=h.r x hm
   unfold ik
   dsimp only
   rw[za (qQ hk),zc (zo hk),hx]
   simp only[gw]
   refine(z6 (a:=(W3 x,x)) ?_ _).trans ?_
   ·exact rN (vv x.1) (rN (H3 _) (NF (NF (rN (Wj x1) (z5s (Wj x2))))))
   ·dsimp only
    cases W3 x with
    | true=>rfl
    | false=>rw[zr,z7,vA k _ hk (by omega)]; rfl
  ·unfold ik
   rw[z8 (xo _),z7]
 unfold J2 rm
 rw[z6 k1]
 have e1:a1 f = !f.1.any Ky:=rfl
 have e2:a2 f = !f.2.1.any fK:=rfl
 have e3:a3 f = !f.2.2.1.any KC:=rfl
 have e6:a6 f = !f.2.2.2.2.1.any W3:=rfl
 rw[e1,e2,e3]
 cases f.1.any Ky with
 | true=>rfl
 | false =>
 rw[if_neg (by decide),Sum.elim_inl,z6 k2]
 cases f.2.1.any fK with
 | true=>rfl
 | false =>
 rw[if_neg (by decide),Sum.elim_inl,z6 k3]
 cases f.2.2.1.any KC with
 | true=>rfl
 | false =>
 rw[if_neg (by decide),Sum.elim_inl,z6 k4]
 cases q6:f.2.2.2.2.1.any W3 with
 | true=>rw[e6,q6]; cases a4 f<;>cases a5 f<;>rfl
 | false =>
 rw[if_neg (by decide),Sum.elim_inl,z6 (JS f h)]
 cases h4:a4 f with
 | false=>rfl
 | true =>
 cases h5:a5 f with
 | false=>rfl
 | true =>
 have h6:a6 f=true:=by rw[e6,q6]; rfl
 rw[za (by rfl),z6 (YO f (z4I h h4 h5 h6)),z7,h6]
 rfl
theorem mN{α β σ ρ:Type}(l:List α)(d:α)(C B:Nat)(g:α→List β)(e:List β→Int→σ)(fin:List β→ρ)(s:List β){r:σ→T (σ⊕ρ)}
  (step:∀ (k:Nat) (b:List β) (x:α),k<l.length→nth l (k:Int) d=x→x∈l→b.length+C≤B→(r (e b (k:Int))).run=some (.inl (e (b++g x) ((k+1:Nat):Int))))
  (done:∀ b,b.length≤B→(r (e b (l.length:Int))).run=some (.inr (fin b))) (hg:∀ x∈l,(g x).length≤C) (hB:s.length+l.length*C≤B):(T.loop r (e s 0)).run=some (fin (s++l.flatMap g)):=by
 have ef:∀ (l:List α) (s:List β),l.foldl (fun s x=>s++g x) s=s++l.flatMap g:=by
  intro l
  induction l with
  | nil=>intro s; simp
  | cons x r ih=>intro s; rw[List.foldl_cons,ih,List.flatMap_cons,List.append_assoc]
 rw[← ef]
 refine T.nY (r:=r) l d e (fun k b=>b.length≤s.length+k*C) (fun b x=>b++g x) fin (fun k b x hk hx hm hI => ?_) (fun b hI=>done b (by omega)) (b:=s) (by omega)
 have h4:=XB (c:=C) (show k+1≤l.length from hk)
 rw[Nat.add_mul,Nat.one_mul]at h4
 refine⟨step k b x hk hx hm (by omega),?_⟩
 have:=hg x hm
 rw[List.length_append,Nat.add_mul,Nat.one_mul]
 omega
theorem z5v{α β:Type}(h:α→β)(l:List α):l.flatMap (fun x=>[h x])=l.map h:=by
 induction l with
 | nil=>rfl
 | cons x r ih=>rw[List.flatMap_cons,ih]; rfl
theorem uj{α:Type}(l:List α)(d:α)(h:α→zf)(s:List zf){r:Int×List zf→T ((Int×List zf)⊕List zf)}
  (step:∀ (k:Nat) (b:List zf) (x:α),k<l.length→nth l (k:Int) d=x→x∈l→b.length≤3000000→(r ((k:Int),b)).run=some (.inl (((k+1:Nat):Int),b++[h x])))
  (done:∀ b,(r ((l.length:Int),b)).run=some (.inr b)) (hB:s.length+l.length≤3000000):(T.loop r (0,s)).run=some (s++l.map h):=by
 have:=mN (r:=r) l d 1 3000000 (fun x=>[h x]) (fun b i=>(i,b)) (fun b=>b) s (fun k b x hk hx hm hb=>step k b x hk hx hm (by omega)) (fun b _=>done b) (fun _ _=>Nat.le_refl _) (by omega)
 rwa [z5v]at this
def XD{β ρ:Type}(h:β→ρ)(y:ρ):Option β→ρ
 | some z=>h z
 | none=>y
theorem fH{α β σ ρ:Type}(l:List α)(d:α)(q:α→Option β)(e:Int→σ)(h:β→ρ)(y:ρ){r:σ→T (σ⊕ρ)}
  (step:∀ (k:Nat) (x:α),k<l.length→nth l (k:Int) d=x→x∈l→(r (e (k:Int))).run=some (XD (fun z=>.inr (h z)) (.inl (e ((k+1:Nat):Int))) (q x)))
  (done:(r (e (l.length:Int))).run=some (.inr y)):(T.loop r (e 0)).run=some (XD h y (l.findSome? q)):=by
 refine T.jt (r:=r) l d (fun(_:Unit) i=>e i) (fun _ _=>True) (fun xs _=>XD h y (xs.findSome? q)) (fun k b x xs hk hx hm _ _ => ?_) (fun b _ => ?_) (b:=()) trivial
 ·rw[step k x hk hx hm,List.findSome?_cons]
  cases q x with
  | some z=>exact .inr rfl
  | none=>exact .inl ⟨(),rfl,trivial,rfl⟩
 ·exact done
def pick{α:Type}(p:α→Bool)(x:α):Option α:=if p x=true then some x else none
theorem My{α:Type}(p:α→Bool)(d:α)(l:List α):(l.findSome? (pick p)=none∧PL.vu p 0 l = -1)∨∃ (x:α) (k:Nat),l.findSome? (pick p)=some x∧PL.vu p 0 l=(k:Int)∧k<l.length∧nth l (k:Int) d=x:=by
 have gen:∀ (l:List α) (j:Nat),(l.findSome? (pick p)=none∧PL.vu p (j:Int) l = -1)∨∃ (x:α) (k:Nat),l.findSome? (pick p)=some x∧PL.vu p (j:Int) l=((j+k:Nat):Int)∧k<l.length∧nth l (k:Int) d=x:=by
  intro l
  induction l with
  | nil=>intro j; exact .inl ⟨rfl,rfl⟩
  | cons x r ih =>
   intro j
   rw[List.findSome?_cons]
   unfold PL.vu pick
   cases hp:p x with
   | true=>exact .inr ⟨x,0,rfl,rfl,Nat.zero_lt_succ _,rfl⟩
   | false =>
    rw[if_neg (by decide),if_neg (by decide)]
    rcases ih (j+1)with⟨h1,h2⟩ | ⟨y,k,h1,h2,h3,h4⟩
    ·exact .inl ⟨h1,h2⟩
    ·refine .inr ⟨y,k+1,h1,h2.trans (by rw[show j+1+k=j+(k+1) by omega]),Nat.succ_lt_succ h3,?_⟩
     rw[xh (Nat.succ_lt_succ h3),List.getElem_cons_succ]
     rwa [xh h3]at h4
 rcases gen l 0 with h | ⟨x,k,h1,h2,h3,h4⟩
 ·exact .inl h
 ·exact .inr ⟨x,k,h1,h2.trans (by rw[Nat.zero_add]),h3,h4⟩
theorem Wo(l:List zf)(g:zf→T Bool)(p:zf→Bool)(hg:∀ x∈l,(g x).run=some (p x))(hl:l.length≤1000000000):(qp l g).run=some (PL.vu p 0 l):=by
 have key:(va l g (l.length:Int) 0).run=some (if PL.vu p 0 l = -1 then .inl ()else .inr (PL.vu p 0 l)):=by
  refine PL.gv l (zb .str) p (fun i h hi hp => ?_) (fun i h hi hp => ?_) (fun i hi => ?_)
  ·have hm:=vp (d:=zb .str) h hi
   simp(disch:=omega) [qg,hi,hg _ hm,hp]
  ·have hm:=vp (d:=zb .str) h hi
   simp(disch:=omega) [qg,hi,hg _ hm,hp]
  ·simp[qg,hi]
 unfold qp
 rw[z6 key]
 split<;>rename_i h<;>simp[h]
theorem any_map(α:Type)(h:α→zf)(s:zf)(l:List α):l.any (fun x=>zM (h x) s)=decide (s∈l.map h):=by
 induction l with
 | nil=>rfl
 | cons x r ih =>
  rw[List.any_cons,ih,List.map_cons,wx]
  by_cases q:h x=s
  ·rw[decide_eq_true q,decide_eq_true (List.mem_cons.2 (.inl q.symm))]; rfl
  ·rw[decide_eq_false q,Bool.false_or]
   exact decide_eq_decide.2 ⟨fun h=>List.mem_cons_of_mem _ h,fun h=>(List.mem_cons.1 h).resolve_left fun e=>q e.symm⟩
def Zh(f:Form):List zf:=f.1.map (·.1)++f.2.1.map (·.1)++f.2.2.1.map (·.1)++f.2.2.2.1.map (·.1)++f.2.2.2.2.1.map (·.1)++f.2.2.2.2.2.1.map (·.1)
theorem ot(f:Form)(h:FS f):(gF f).run=some (f.2.2.2.1.map (·.1)):=by
 have hn:=h.n
 have k:(rC f (0,[])).run=some ([]++f.2.2.2.1.map (·.1)):=by
  refine uj (r:=kG f) f.2.2.2.1 (zb qc) (·.1) [] (fun k b x hk hx hm hb => ?_) (fun b => ?_) (by simp only[List.length_nil]; omega)
  ·unfold kG
   dsimp only
   rw[hx,za (qQ hk),zc (zo hk),xi _ rfl rfl rfl (by omega),ze _ (by simp) rfl (by simp),zc (by simp),z7,vA k _ hk (by omega)]
  ·unfold kG
   dsimp only
   rw[z8 (xo _),ze _ rfl rfl rfl,T.zk,z7]
 unfold gF
 rw[ze _ rfl rfl rfl,T.zk,z6 k,T.zk,z7]
 simp only[List.nil_append,Nat.zero_add,List.take_length,List.drop_zero]
theorem Uw(f:Form)(h:FS f):(lF f).run=some (Zh f):=by
 have hn:=h.n
 have k0:∀ s:List zf,s.length≤1000→(td f f.1 (f.1.length:Int) (0,s)).run=some (s++f.1.map (·.1)):=fun s hs=>by
  refine uj (r:=kI f f.1 (f.1.length:Int)) f.1 (zb zZ) (·.1) s (fun k b x hk hx hm hb => ?_) (fun b => ?_) (by omega)
  ·unfold kI
   dsimp only
   rw[hx,za (qQ hk),zc (zo hk),xi _ rfl rfl rfl (by omega),ze _ (by simp) rfl (by simp),zc (by simp),z7,vA k _ hk (by omega)]
  ·unfold kI
   dsimp only
   rw[z8 (xo _),ze _ rfl rfl rfl,T.zk,z7]
 have k1:∀ s:List zf,s.length≤1000→(su f f.2.1 (f.2.1.length:Int) (0,s)).run=some (s++f.2.1.map (·.1)):=fun s hs=>by
  refine uj (r:=kF f f.2.1 (f.2.1.length:Int)) f.2.1 (zb q8) (·.1) s (fun k b x hk hx hm hb => ?_) (fun b => ?_) (by omega)
  ·unfold kF
   dsimp only
   rw[hx,za (qQ hk),zc (zo hk),xi _ rfl rfl rfl (by omega),ze _ (by simp) rfl (by simp),zc (by simp),z7,vA k _ hk (by omega)]
  ·unfold kF
   dsimp only
   rw[z8 (xo _),ze _ rfl rfl rfl,T.zk,z7]
 have k2:∀ s:List zf,s.length≤1000→(th f f.2.2.1 (f.2.2.1.length:Int) (0,s)).run=some (s++f.2.2.1.map (·.1)):=fun s hs=>by
  refine uj (r:=kE f f.2.2.1 (f.2.2.1.length:Int)) f.2.2.1 (zb qy) (·.1) s (fun k b x hk hx hm hb => ?_) (fun b => ?_) (by omega)
  ·unfold kE
   dsimp only
   rw[hx,za (qQ hk),zc (zo hk),xi _ rfl rfl rfl (by omega),ze _ (by simp) rfl (by simp),zc (by simp),z7,vA k _ hk (by omega)]
  ·unfold kE
   dsimp only
   rw[z8 (xo _),ze _ rfl rfl rfl,T.zk,z7]
 have k3:∀ s:List zf,s.length≤1000→(sT f f.2.2.2.1 (f.2.2.2.1.length:Int) (0,s)).run=some (s++f.2.2.2.1.map (·.1)):=fun s hs=>by
  refine uj (r:=kN f f.2.2.2.1 (f.2.2.2.1.length:Int)) f.2.2.2.1 (zb qc) (·.1) s (fun k b x hk hx hm hb => ?_) (fun b => ?_) (by omega)
  ·unfold kN
   dsimp only
   rw[hx,za (qQ hk),zc (zo hk),xi _ rfl rfl rfl (by omega),ze _ (by simp) rfl (by simp),zc (by simp),z7,vA k _ hk (by omega)]
  ·unfold kN
   dsimp only
   rw[z8 (xo _),ze _ rfl rfl rfl,T.zk,z7]
 have k4:∀ s:List zf,s.length≤1000→(tu f f.2.2.2.2.1 (f.2.2.2.2.1.length:Int) (0,s)).run=some (s++f.2.2.2.2.1.map (·.1)):=fun s hs=>by
  refine uj (r:=kB f f.2.2.2.2.1 (f.2.2.2.2.1.length:Int)) f.2.2.2.2.1 (zb zl) (·.1) s (fun k b x hk hx hm hb => ?_) (fun b => ?_) (by omega)
  ·unfold kB
   dsimp only
   rw[hx,za (qQ hk),zc (zo hk),xi _ rfl rfl rfl (by omega),ze _ (by simp) rfl (by simp),zc (by simp),z7,vA k _ hk (by omega)]
  ·unfold kB
   dsimp only
   rw[z8 (xo _),ze _ rfl rfl rfl,T.zk,z7]
 have k5:∀ s:List zf,s.length≤1000→(rU f.2.2.2.2.2.1 (f.2.2.2.2.2.1.length:Int) (0,s)).run=some (s++f.2.2.2.2.2.1.map (·.1)):=fun s hs=>by
  refine uj (r:=kh f.2.2.2.2.2.1 (f.2.2.2.2.2.1.length:Int)) f.2.2.2.2.2.1 (zb zn) (·.1) s (fun k b x hk hx hm hb => ?_) (fun b => ?_) (by omega)
  ·unfold kh
   dsimp only
   rw[hx,za (qQ hk),zc (zo hk),xi _ rfl rfl rfl (by omega),ze _ (by simp) rfl (by simp),zc (by simp),z7,vA k _ hk (by omega)]
  ·unfold kh
   dsimp only
   rw[z8 (xo _),ze _ rfl rfl rfl,T.zk,z7]
 unfold lF
 rw[ze _ rfl rfl rfl,T.zk,z6 (k0 _ (by simp)),List.nil_append,ze _ rfl rfl rfl,T.zk,z6 (k1 _ (by simp only[List.length_append,List.length_map]; omega)),ze _ rfl rfl rfl,T.zk,z6 (k2 _ (by simp only[List.length_append,List.length_map]; omega)),ze _ rfl rfl rfl,T.zk,z6 (k3 _ (by simp only[List.length_append,List.length_map]; omega)),ze _ rfl rfl rfl,T.zk,z6 (k4 _ (by simp only[List.length_append,List.length_map]; omega)),ze _ rfl rfl rfl,T.zk,z6 (k5 _ (by simp only[List.length_append,List.length_map]; omega)),T.zk,z7]
 simp only[Nat.zero_add,List.take_length,List.drop_zero]
 rfl
theorem Js(f:Form)(h:FS f):(o0 f).run=some (Zh f):=by
 have hn:=h.n
 have k0:∀ s:List zf,s.length≤1000→(Zy f (0,s)).run=some (s++f.1.map (·.1)):=fun s hs=>by
  refine uj (r:=yK f) f.1 (zb zZ) (·.1) s (fun k b x hk hx hm hb => ?_) (fun b => ?_) (by omega)
  ·unfold yK
   dsimp only
   rw[hx,za (qQ hk),zc (zo hk),xi _ rfl rfl rfl (by omega),ze _ (by simp) rfl (by simp),zc (by simp),z7,vA k _ hk (by omega)]
  ·unfold yK
   dsimp only
   rw[z8 (xo _),ze _ rfl rfl rfl,T.zk,z7]
 have k1:∀ s:List zf,s.length≤1000→(Q1 f (0,s)).run=some (s++f.2.1.map (·.1)):=fun s hs=>by
  refine uj (r:=yT f) f.2.1 (zb q8) (·.1) s (fun k b x hk hx hm hb => ?_) (fun b => ?_) (by omega)
  ·unfold yT
   dsimp only
   rw[hx,za (qQ hk),zc (zo hk),xi _ rfl rfl rfl (by omega),ze _ (by simp) rfl (by simp),zc (by simp),z7,vA k _ hk (by omega)]
  ·unfold yT
   dsimp only
   rw[z8 (xo _),ze _ rfl rfl rfl,T.zk,z7]
 have k2:∀ s:List zf,s.length≤1000→(Q2 f (0,s)).run=some (s++f.2.2.1.map (·.1)):=fun s hs=>by
  refine uj (r:=yW f) f.2.2.1 (zb qy) (·.1) s (fun k b x hk hx hm hb => ?_) (fun b => ?_) (by omega)
  ·unfold yW
   dsimp only
   rw[hx,za (qQ hk),zc (zo hk),xi _ rfl rfl rfl (by omega),ze _ (by simp) rfl (by simp),zc (by simp),z7,vA k _ hk (by omega)]
  ·unfold yW
   dsimp only
   rw[z8 (xo _),ze _ rfl rfl rfl,T.zk,z7]
 have k3:∀ s:List zf,s.length≤1000→(ZT f (0,s)).run=some (s++f.2.2.2.2.1.map (·.1)):=fun s hs=>by
  refine uj (r:=yS f) f.2.2.2.2.1 (zb zl) (·.1) s (fun k b x hk hx hm hb => ?_) (fun b => ?_) (by omega)
  ·unfold yS
   dsimp only
   rw[hx,za (qQ hk),zc (zo hk),xi _ rfl rfl rfl (by omega),ze _ (by simp) rfl (by simp),zc (by simp),z7,vA k _ hk (by omega)]
  ·unfold yS
   dsimp only
   rw[z8 (xo _),ze _ rfl rfl rfl,T.zk,z7]
 have k4:∀ s:List zf,s.length≤1000→(Zt f (0,s)).run=some (s++f.2.2.2.2.2.1.map (·.1)):=fun s hs=>by
  refine uj (r:=yz f) f.2.2.2.2.2.1 (zb zn) (·.1) s (fun k b x hk hx hm hb => ?_) (fun b => ?_) (by omega)
  ·unfold yz
   dsimp only
   rw[hx,za (qQ hk),zc (zo hk),xi _ rfl rfl rfl (by omega),ze _ (by simp) rfl (by simp),zc (by simp),z7,vA k _ hk (by omega)]
  ·unfold yz
   dsimp only
   rw[z8 (xo _),ze _ rfl rfl rfl,T.zk,z7]
 unfold o0
 rw[ze _ rfl rfl rfl,T.zk,z6 (k0 _ (by simp)),List.nil_append,ze _ rfl rfl rfl,T.zk,z6 (k1 _ (by simp only[List.length_append,List.length_map]; omega)),ze _ rfl rfl rfl,T.zk,z6 (k2 _ (by simp only[List.length_append,List.length_map]; omega)),z6 (ot f h),xi _ rfl rfl rfl (by simp only[List.length_append,List.length_map]; omega),ze _ List.length_append.symm rfl List.length_append.symm,zc List.length_append.symm,z6 (k3 _ (by simp only[List.length_append,List.length_map]; omega)),ze _ rfl rfl rfl,T.zk,z6 (k4 _ (by simp only[List.length_append,List.length_map]; omega)),T.zk,z7]
 simp only[Nat.zero_add,List.take_length,List.drop_zero]
 rfl
theorem SA(seen:List zf)(x:zf)(r:List zf):Zg seen (x::r)=if x∈seen then(x,true)else Zg (seen++[x]) r:=rfl
theorem MZ:∀ (l seen:List zf),(Zg seen l).2=true→(Zg seen l).1∈l
 | [],_,h=>by cases h
 | x::r,seen,h=>by
  unfold Zg at h ⊢
  split
  ·exact List.mem_cons_self
  ·rename_i q
   rw[if_neg q]at h
   exact List.mem_cons_of_mem _ (MZ r _ h)
theorem Kf:∀ (l seen:List zf),(Zg seen l).2=false→(Zg seen l).1=[]
 | [],_,_=>rfl
 | x::r,seen,h=>by
  unfold Zg at h ⊢
  split
  ·rename_i q
   rw[if_pos q]at h; cases h
  ·rename_i q
   rw[if_neg q]at h
   exact Kf r _ h
theorem Ur(l:List zf)(hl:l.length≤1000000)(hs:∀ s∈l,s.length≤1000000):(lV l).run=some (Zg [] l):=by
 unfold lV
 rw[zc ⟨by omega,fun s h=>by have:=hs s h; omega⟩,z7]
theorem Jw(l:List zf)(hl:l.length≤1000000):(p7 l).run=some (Zg [] l).1:=by
 have key:(Zs l 0).run=some (if(Zg [] l).2=true then .inr (Zg [] l).1 else .inl ()):=by
  refine T.jt (r:=yE l) l (zb .str) (fun(_:List zf) i=>i) (fun k b=>b=l.take k) (fun xs b=>if(Zg b xs).2=true then .inr (Zg b xs).1 else .inl ()) (fun k b x xs hk hx hm hd hb => ?_) (fun b _ => ?_) (b:=[]) rfl
  ·subst hb
   unfold yE
   dsimp only
   have hc:uz (e:=.str) (0:Int) (k:Int) l=l.take k:=by unfold uz; simp
   have hh:=bf (l.take k) x (by rw[List.length_take]; omega)
   rw[za (qQ hk),zc (z0B.2 ⟨by omega,by omega,by omega⟩),zc (zo hk),hc,hx,z6 hh,SA]
   by_cases q:x∈l.take k
   ·right
    rw[decide_eq_true q,zD,zc (zo hk),z7,if_pos q]
    rfl
   ·left
    rw[decide_eq_false q,zr,z7,if_neg q,vA k _ hk (by omega)]
    refine⟨l.take (k+1),rfl,rfl,?_⟩
    have e:l.take (k+1)=l.take k++[x]:=by
     rw[xh hk]at hx
     rw[List.take_add_one,List.getElem?_eq_getElem hk,hx]; rfl
    rw[e]
  ·unfold yE
   rw[z8 (xo _),z7]; rfl
 unfold p7
 rw[z6 key]
 cases q:(Zg [] l).2 with
 | true=>rfl
 | false=>rw[if_neg (by decide),Sum.elim_inl,z7,Kf l [] q]
def gsF(f:Form):List zf:=f.2.2.1.map (·.2.1)++f.2.2.2.2.1.map (·.2.2.1)
def dJ(f:Form)(s:zf):Bool := !zM s [] && !decide (s∈f.1.map (·.1))
def OX(f:Form):Option zf:=(gsF f).findSome? (pick (dJ f))
theorem G7{α:Type}{p:α→Bool}{l:List α}{x:α}(h:l.findSome? (pick p)=some x):x∈l∧p x=true:=by
 induction l with
 | nil=>cases h
 | cons y r ih =>
  rw[List.findSome?_cons]at h
  unfold pick at h
  cases hp:p y with
  | true =>
   rw[hp,if_pos rfl]at h
   have e:y=x:=Option.some.inj h
   exact e▸⟨List.mem_cons_self,hp⟩
  | false =>
   rw[hp,if_neg (by decide)]at h
   have:=ih h
   exact⟨List.mem_cons_of_mem _ this.1,this.2⟩
theorem z6f{f:Form}{x:zf}(h:OX f=some x):zM x []=false:=by
 have:=(G7 h).2
 unfold dJ at this
 rw[Bool.and_eq_true,Bool.not_eq_true']at this
 exact this.1
theorem Zi(f:Form)(h:FS f):(gp f).run=some (XD (fun x=>(x,true)) ([],false) (OX f)):=by
 have hn:=h.n
 have k0:∀ s:List zf,s.length≤1000→(fR f f.2.2.1 (f.2.2.1.length:Int) (0,s)).run=some (s++f.2.2.1.map (·.2.1)):=fun s hs=>by
  refine uj (r:=vD f f.2.2.1 (f.2.2.1.length:Int)) f.2.2.1 (zb qy) (·.2.1) s (fun k b x hk hx hm hb => ?_) (fun b => ?_) (by omega)
  ·unfold vD
   dsimp only
   rw[hx,za (qQ hk),zc (zo hk),xi _ rfl rfl rfl (by omega),ze _ (by simp) rfl (by simp),zc (by simp),z7,vA k _ hk (by omega)]
  ·unfold vD
   dsimp only
   rw[z8 (xo _),ze _ rfl rfl rfl,T.zk,z7]
 have k1:∀ s:List zf,s.length≤1000→(iM f f.2.2.2.2.1 (f.2.2.2.2.1.length:Int) (0,s)).run=some (s++f.2.2.2.2.1.map (·.2.2.1)):=fun s hs=>by
  refine uj (r:=vJ f f.2.2.2.2.1 (f.2.2.2.2.1.length:Int)) f.2.2.2.2.1 (zb zl) (·.2.2.1) s (fun k b x hk hx hm hb => ?_) (fun b => ?_) (by omega)
  ·unfold vJ
   dsimp only
   rw[hx,za (qQ hk),zc (zo hk),xi _ rfl rfl rfl (by omega),ze _ (by simp) rfl (by simp),zc (by simp),z7,vA k _ hk (by omega)]
  ·unfold vJ
   dsimp only
   rw[z8 (xo _),ze _ rfl rfl rfl,T.zk,z7]
 have hix:=Wo (gsF f) (fun z0=>wJ z0 f) (dJ f) (fun s _=>by
  unfold wJ dJ
  cases zM s []with
  | true=>rfl
  | false =>
   rw[za (by rfl),z6 (ZK f.1 (fun z0=>w6 z0 s) (fun x=>zM x.1 s) (fun x _=>rfl) (by omega)),z7,any_map Switch (·.1) s f.1]
   rfl) (by unfold gsF; simp only[List.length_append,List.length_map]; omega)
 unfold gp
 rw[ze _ rfl rfl rfl,T.zk,z6 (k0 _ (by simp)),List.nil_append,ze _ rfl rfl rfl,T.zk,z6 (k1 _ (by rw[List.length_map]; omega)),T.zk]
 simp only[Nat.zero_add,List.take_length,List.drop_zero]
 refine(z6 hix _).trans ?_
 unfold OX
 rcases My (dJ f) (zb .str) (gsF f)with⟨h1,h2⟩ | ⟨x,k,h1,h2,h3,h4⟩
 ·rw[h1,h2]; rfl
 ·rw[h1,h2,z8 (decide_eq_false (by omega))]
  have h3':(k:Int).toNat<(f.2.2.1.map (·.2.1)++f.2.2.2.2.1.map (·.2.2.1):List zf).length:=by rw[Int.toNat_natCast]; exact h3
  refine(zc (zo h3) _).trans ((zc (oU.2 ⟨rfl,h3'⟩) _).trans ?_)
  exact congrArg some (congrArg (·,true) h4)
theorem UC(f:Form)(h:FS f):(dV f).run=some ((OX f).getD []):=by
 have hn:=h.n
 have k0:(tq f (0,[])).run=some ([]++f.1.map (·.1)):=by
  refine uj (r:=ki f) f.1 (zb zZ) (·.1) [] (fun k b x hk hx hm hb => ?_) (fun b => ?_) (by simp only[List.length_nil]; omega)
  ·unfold ki
   dsimp only
   rw[hx,za (qQ hk),zc (zo hk),xi _ rfl rfl rfl (by omega),ze _ (by simp) rfl (by simp),zc (by simp),z7,vA k _ hk (by omega)]
  ·unfold ki
   dsimp only
   rw[z8 (xo _),ze _ rfl rfl rfl,T.zk,z7]
 have hg:∀ (N:List zf) (g:zf) (i n:Int) (hN:N.length≤1000000) (hN2:N=f.1.map (·.1)) (P:Prop) (hP:P),
   (.zd P<|.ite (!(zM g ([]:zf))) (.zd P<|.zd ((List.length N)=(List.length N))<|T.bind (yV (List.drop (0:Nat) (List.take ((0:Nat)+(List.length N)) N)) g) fun r=>.zd (zh (List.length N) (0:Nat) (List.length N) (List.length N))<|.zd ((List.length N)=(List.length N))<|.ret ((!r),N))
    (.zd (zh (List.length N) (0:Nat) (List.length N) (List.length N))<|.zd ((List.length N)=(List.length N))<|.ret (false,N)):T (Bool×List zf)).run=some (dJ f g,N):=by
  intro N g i n hN hN2 P hP
  subst hN2
  unfold dJ
  rw[zc hP]
  cases zM g []with
  | true=>rw[z8 (by rfl),ze _ rfl rfl rfl,T.zk,z7]; rfl
  | false =>
   rw[za (by rfl),zc hP,T.zk]
   simp only[Nat.zero_add,List.take_length,List.drop_zero]
   rw[z6 (bf _ g (by omega)),ze _ rfl rfl rfl,zP,z7]
   rfl
 have k1:(sg f (0,f.1.map (·.1))).run=some (XD (fun z=>.inr (z,f.1.map (·.1))) (.inl (f.1.map (·.1))) (f.2.2.1.findSome? (fun x=>pick (dJ f) x.2.1))):=by
  refine fH (r:=kc f) f.2.2.1 (zb qy) (fun x=>pick (dJ f) x.2.1) (fun i=>(i,f.1.map (·.1))) (fun z=>.inr (z,f.1.map (·.1))) (.inl (f.1.map (·.1))) (fun k x hk hx hm => ?_) ?_
  ·unfold kc
   dsimp only
   rw[za (qQ hk),hx]
   refine(z6 (hg (f.1.map (·.1)) x.2.1 0 0 (by rw[List.length_map]; omega) rfl _ (zo hk)) _).trans ?_
   dsimp only
   unfold pick
   cases dJ f x.2.1 with
   | true=>rw[zD,zc (zo hk),T.zk,z7]; rfl
   | false=>rw[zr,ze _ rfl rfl rfl,T.zk,z7,vA k _ hk (by omega)]; rfl
  ·unfold kc
   dsimp only
   rw[z8 (xo _),ze _ rfl rfl rfl,T.zk,z7]
 have k2:(sW f (0,f.1.map (·.1))).run=some (XD (fun z=>.inr (z,f.1.map (·.1))) (.inl (f.1.map (·.1))) (f.2.2.2.2.1.findSome? (fun x=>pick (dJ f) x.2.2.1))):=by
  refine fH (r:=kD f) f.2.2.2.2.1 (zb zl) (fun x=>pick (dJ f) x.2.2.1) (fun i=>(i,f.1.map (·.1))) (fun z=>.inr (z,f.1.map (·.1))) (.inl (f.1.map (·.1))) (fun k x hk hx hm => ?_) ?_
  ·unfold kD
   dsimp only
   rw[za (qQ hk),hx]
   refine(z6 (hg (f.1.map (·.1)) x.2.2.1 0 0 (by rw[List.length_map]; omega) rfl _ (zo hk)) _).trans ?_
   dsimp only
   unfold pick
   cases dJ f x.2.2.1 with
   | true=>rw[zD,zc (zo hk),T.zk,z7]; rfl
   | false=>rw[zr,ze _ rfl rfl rfl,T.zk,z7,vA k _ hk (by omega)]; rfl
  ·unfold kD
   dsimp only
   rw[z8 (xo _),T.zk,z7]
 have e:OX f=(f.2.2.1.findSome? (fun x=>pick (dJ f) x.2.1)).or (f.2.2.2.2.1.findSome? (fun x=>pick (dJ f) x.2.2.1)):=by
  unfold OX gsF
  rw[List.findSome?_append,List.findSome?_map,List.findSome?_map]
  rfl
 unfold dV
 rw[ze _ rfl rfl rfl,T.zk,z6 k0,List.nil_append,ze _ rfl rfl rfl,T.zk,z6 k1,e]
 cases f.2.2.1.findSome? (fun x=>pick (dJ f) x.2.1)with
 | some z=>rfl
 | none =>
  show T.run (Sum.elim _ _ (.inl _))=_
  rw[Sum.elim_inl,ze _ rfl rfl rfl,T.zk,z6 k2]
  cases f.2.2.2.2.1.findSome? (fun x=>pick (dJ f) x.2.2.1)<;>rfl
mutual
theorem Rk:∀ (e:Expr) (acc:List zf),nmE e acc=dd acc (allE e)
 | .mk k n s l,acc=>by
  unfold nmE allE
  rw[LF l,Z0]
  congr 1
  by_cases hk:k=2
  ·rw[if_pos hk,tX,WL]
   by_cases ha:s∈acc
   ·rw[if_pos ha,if_neg]
    rintro⟨-,h⟩
    rw[List.any_eq_false]at h
    exact h s ha (wx s s▸decide_eq_true rfl)
   ·have hf:acc.any (zM s)=false:=List.any_eq_false.2 fun x hx h=>by
     rw[wx]at h
     exact ha (of_decide_eq_true h▸hx)
    rw[if_neg ha,if_pos ⟨hk,hf⟩]
  ·rw[if_neg hk,if_neg (fun h=>hk h.1),WL]
theorem LF:∀ (l:List Expr) (acc:List zf),nmEs l acc=dd acc (allEs l)
 | [],acc=>rfl
 | e::r,acc=>by
  unfold nmEs allEs
  rw[LF r,Rk e,Z0]
end
def Gp(f:Form):List Expr:=f.2.2.2.2.2.1.flatMap (fun x=>[x.2.2.2.1,x.2.2.2.2.1])++f.2.2.2.2.1.flatMap (fun x=>[x.2.2.2.1,x.2.2.2.2.1])
def Oo(f:Form):List zf:=f.2.2.2.1.map (·.1)++f.2.1.map (·.1)
def K1(f:Form)(s:zf):Bool := !decide (s∈Oo f)
def nmX(l:List Expr):List zf:=l.flatMap fun e=>nmE e []
def Pj(f:Form):Option zf:=(nmX (Gp f)).findSome? (pick (K1 f))
theorem z7M{f:Form}(h:FS f):∀ e∈Gp f,eJ e:=by
 intro e he
 unfold Gp at he
 rcases List.mem_append.1 he with he | he<;>obtain⟨x,hx,he⟩:=List.mem_flatMap.1 he
 ·have:=h.c x hx
  rcases List.mem_cons.1 he with rfl | he
  ·exact this.2.1
  ·rw[List.mem_singleton.1 he]; exact this.2.2
 ·have:=h.r x hx
  rcases List.mem_cons.1 he with rfl | he
  ·exact this.2.2.1
  ·rw[List.mem_singleton.1 he]; exact this.2.2.2
theorem kO{α β:Type}(g:α→List β)(C:Nat):∀ (l:List α),(∀ x∈l,(g x).length≤C)→(l.flatMap g).length≤l.length*C
 | [],_=>Nat.zero_le _
 | x::r,h=>by
  have h1:=h x List.mem_cons_self
  have h2:=kO g C r fun y hy=>h y (List.mem_cons_of_mem _ hy)
  rw[List.flatMap_cons,List.length_append,List.length_cons,Nat.add_mul,Nat.one_mul]
  omega
theorem z17{f:Form}(h:FS f):(Gp f).length≤60:=by
 have hn:=h.n
 have h1:=kO (fun x:Check=>[x.2.2.2.1,x.2.2.2.2.1]) 2 f.2.2.2.2.2.1 fun _ _=>Nat.le_refl _
 have h2:=kO (fun x:uP=>[x.2.2.2.1,x.2.2.2.2.1]) 2 f.2.2.2.2.1 fun _ _=>Nat.le_refl _
 unfold Gp
 rw[List.length_append]
 exact Nat.le_trans (Nat.add_le_add h1 h2) (by omega)
theorem Qm{e:Expr}(h:eJ e):(nmE e []).length≤2400:=by
 have h1:=Ww e []
 have h2:=jN h
 simp only[List.length_nil,Nat.zero_add]at h1
 exact Nat.le_trans h1 h2
theorem GA{α β γ:Type}(g:α→List β)(q:β→Option γ):∀ l:List α,(l.flatMap g).findSome? q=l.findSome? fun x=>(g x).findSome? q
 | []=>rfl
 | x::r=>by
  rw[List.flatMap_cons,List.findSome?_append,List.findSome?_cons,GA g q r]
  cases(g x).findSome? q<;>rfl
theorem Kg(n C:Nat)(m D:Nat)(h:n≤m)(e:m*C≤D):n*C≤D:=Nat.le_trans (Nat.mul_le_mul_right C h) e
theorem Wq(f:Form)(h:FS f):(cX f (f.2.2.2.1.map (·.1))).run=some (XD (fun x=>(x,true)) ([],false) (Pj f)):=by
 have hn:=h.n
 have gl:∀ (a b:Expr),eJ a→eJ b→(nmE a []++nmE b []).length≤4800:=fun a b ha hb=>by
  rw[List.length_append]; exact Nat.add_le_add (Qm ha) (Qm hb)
 have cc:∀ (b p q:List zf),b.length≤300000→p.length≤2400→q.length≤2400→(wg [b,p,q]).run=some (b++(p++q)):=fun b p q hb hp hq=>by
  unfold wg
  have e:List.flatten [b,p,q]=b++(p++q):=by simp
  rw[e,zc ⟨by simp only[List.length_cons,List.length_nil]; omega,by rw[List.length_append,List.length_append]; omega,by simp⟩,z7]
 have k0:(ns f (f.2.2.2.1.map (·.1)) f.2.2.2.2.2.1 (f.2.2.2.2.2.1.length:Int) ([],0)).run=some ([]++f.2.2.2.2.2.1.flatMap fun x=>nmE x.2.2.2.1 []++nmE x.2.2.2.2.1 []):=by
  refine mN (r:=j3 f (f.2.2.2.1.map (·.1)) f.2.2.2.2.2.1 (f.2.2.2.2.2.1.length:Int)) f.2.2.2.2.2.1 (zb zn) 4800 300000 (fun x=>nmE x.2.2.2.1 []++nmE x.2.2.2.2.1 []) (fun b i=>(b,i)) (fun b=>b) [] (fun k b x hk hx hm hb => ?_) (fun b _ => ?_) (fun x hx=>gl _ _ (h.c x hx).2.1 (h.c x hx).2.2) (by rw[List.length_nil,Nat.zero_add]; exact Kg _ 4800 30 300000 (by omega) (by decide))
  ·have hc:=h.c x hm
   unfold j3
   dsimp only
   rw[hx,za (qQ hk),zc (zo hk),gw,gw,z6 (mZ _ (Nat.le_trans (jN hc.2.1) (by decide))),z6 (mZ _ (Nat.le_trans (jN hc.2.2) (by decide))),z6 (cc _ _ _ (by omega) (Qm hc.2.1) (Qm hc.2.2)),z7,vA k _ hk (by omega)]
  ·unfold j3
   dsimp only
   rw[z8 (xo _),z7]
 have l0:(f.2.2.2.2.2.1.flatMap fun x=>nmE x.2.2.2.1 []++nmE x.2.2.2.2.1 []).length≤144000 :=
  Nat.le_trans (kO _ 4800 _ fun x hx=>gl _ _ (h.c x hx).2.1 (h.c x hx).2.2) (Kg _ 4800 30 144000 (by omega) (by decide))
 have k1:∀ s:List zf,s.length≤144000→(nf f (f.2.2.2.1.map (·.1)) f.2.2.2.2.1 (f.2.2.2.2.1.length:Int) (s,0)).run=some (s++f.2.2.2.2.1.flatMap fun x=>nmE x.2.2.2.1 []++nmE x.2.2.2.2.1 []):=fun s hs=>by
  refine mN (r:=uZ f (f.2.2.2.1.map (·.1)) f.2.2.2.2.1 (f.2.2.2.2.1.length:Int)) f.2.2.2.2.1 (zb zl) 4800 300000 (fun x=>nmE x.2.2.2.1 []++nmE x.2.2.2.2.1 []) (fun b i=>(b,i)) (fun b=>b) s (fun k b x hk hx hm hb => ?_) (fun b _ => ?_) (fun x hx=>gl _ _ (h.r x hx).2.2.1 (h.r x hx).2.2.2) (Nat.le_trans (Nat.add_le_add hs (Kg _ 4800 30 144000 (by omega) (by decide))) (by decide))
  ·have hc:=(h.r x hm).2.2
   unfold uZ
   dsimp only
   rw[hx,za (qQ hk),zc (zo hk),gw,gw,z6 (mZ _ (Nat.le_trans (jN hc.1) (by decide))),z6 (mZ _ (Nat.le_trans (jN hc.2) (by decide))),z6 (cc _ _ _ (by omega) (Qm hc.1) (Qm hc.2)),z7,vA k _ hk (by omega)]
  ·unfold uZ
   dsimp only
   rw[z8 (xo _),z7]
 have l1:(f.2.2.2.2.1.flatMap fun x=>nmE x.2.2.2.1 []++nmE x.2.2.2.2.1 []).length≤144000 :=
  Nat.le_trans (kO _ 4800 _ fun x hx=>gl _ _ (h.r x hx).2.2.1 (h.r x hx).2.2.2) (Kg _ 4800 30 144000 (by omega) (by decide))
 have eN:nmX (Gp f)=(f.2.2.2.2.2.1.flatMap fun x=>nmE x.2.2.2.1 []++nmE x.2.2.2.2.1 [])++f.2.2.2.2.1.flatMap fun x=>nmE x.2.2.2.1 []++nmE x.2.2.2.2.1 []:=by
  unfold nmX Gp
  rw[List.flatMap_append,List.flatMap_assoc,List.flatMap_assoc]
  simp only[List.flatMap_cons,List.flatMap_nil,List.append_nil]
 have hix:=Wo (nmX (Gp f)) (fun z0=>vw z0 (f.2.2.2.1.map (·.1)) f) (K1 f) (fun s _=>by
  unfold vw
  rw[z6 (cS _ s (by rw[List.length_map]; omega))]
  have e1:(f.2.2.2.1.map (·.1)).any (zM s)=decide (s∈f.2.2.2.1.map (·.1)):=by
   have:(zM s)=fun x=>zM x s:=by funext x; rw[wx,wx]; exact decide_eq_decide.2 ⟨Eq.symm,Eq.symm⟩
   rw[this,← List.map_id (f.2.2.2.1.map (·.1)),List.any_map,← any_map zf id s]; simp
  rw[e1]
  unfold K1 Oo
  by_cases q:s∈f.2.2.2.1.map (·.1)
  ·rw[decide_eq_true q,z8 (by rfl),z7,decide_eq_true (List.mem_append.2 (.inl q))]; rfl
  ·rw[decide_eq_false q,za (by rfl),z6 (Wa f.2.1 (fun z0=>wv z0 s) (fun x=>zM x.1 s) (fun x _=>rfl) (by omega)),z7,any_map Param (·.1) s f.2.1]
   have:(s∈f.2.2.2.1.map (·.1)++f.2.1.map (·.1))↔s∈f.2.1.map (·.1):=by rw[List.mem_append]; exact⟨fun z=>z.resolve_left q,.inr⟩
   rw[decide_eq_decide.2 this]) (by rw[eN,List.length_append]; omega)
 unfold cX
 rw[z6 k0,List.nil_append,z6 (k1 _ l0),← eN]
 refine(z6 hix _).trans ?_
 unfold Pj
 rcases My (K1 f) (zb .str) (nmX (Gp f))with⟨h1,h2⟩ | ⟨x,k,h1,h2,h3,h4⟩
 ·rw[h1,h2]; rfl
 ·rw[h1,h2,z8 (decide_eq_false (by omega)),zc (zo h3),z7,h4]; rfl
theorem NN(f:Form)(h:FS f):(fX f).run=some (Gp f):=by
 have hn:=h.n
 have k0:(Zn f (0,[])).run=some ([]++f.2.2.2.2.2.1.flatMap fun x=>[x.2.2.2.1,x.2.2.2.2.1]):=by
  refine mN (r:=yD f) f.2.2.2.2.2.1 (zb zn) 2 1000 (fun x=>[x.2.2.2.1,x.2.2.2.2.1]) (fun b i=>(i,b)) (fun b=>b) [] (fun k b x hk hx hm hb => ?_) (fun b _ => ?_) (fun _ _=>Nat.le_refl _) (by rw[List.length_nil,Nat.zero_add]; omega)
  ·unfold yD
   dsimp only
   rw[hx,za (qQ hk),zc (zo hk),zc (zo hk),xi _ rfl rfl rfl (by omega),ze _ (by simp) rfl (by simp),zc (by simp),z7,vA k _ hk (by omega)]
  ·unfold yD
   dsimp only
   rw[z8 (xo _),ze _ rfl rfl rfl,T.zk,z7]
 have l0:(f.2.2.2.2.2.1.flatMap fun x=>[x.2.2.2.1,x.2.2.2.2.1]).length≤60 :=
  Nat.le_trans (kO _ 2 _ fun _ _=>Nat.le_refl _) (Kg _ 2 30 60 (by omega) (by decide))
 have k1:∀ s:List Expr,s.length≤60→(Zo f (0,s)).run=some (s++f.2.2.2.2.1.flatMap fun x=>[x.2.2.2.1,x.2.2.2.2.1]):=fun s hs=>by
  refine mN (r:=yY f) f.2.2.2.2.1 (zb zl) 2 1000 (fun x=>[x.2.2.2.1,x.2.2.2.2.1]) (fun b i=>(i,b)) (fun b=>b) s (fun k b x hk hx hm hb => ?_) (fun b _ => ?_) (fun _ _=>Nat.le_refl _) (by omega)
  ·unfold yY
   dsimp only
   rw[hx,za (qQ hk),zc (zo hk),zc (zo hk),xi _ rfl rfl rfl (by omega),ze _ (by simp) rfl (by simp),zc (by simp),z7,vA k _ hk (by omega)]
  ·unfold yY
   dsimp only
   rw[z8 (xo _),ze _ rfl rfl rfl,T.zk,z7]
 unfold fX
 rw[ze _ rfl rfl rfl,T.zk,z6 k0,List.nil_append,ze _ rfl rfl rfl,T.zk,z6 (k1 _ l0),T.zk,z7]
 simp only[Nat.zero_add,List.take_length,List.drop_zero]
 rfl
theorem V6(f:Form)(h:FS f):(ba (Gp f) (Oo f)).run=some ((Pj f).getD []):=by
 have hn:=h.n
 have hk:(Oo f).length≤1000000000:=by unfold Oo; simp only[List.length_append,List.length_map]; omega
 have hl:=z17 h
 have kin:∀ (i:Int) (n:List zf),n.length≤1000000→(pX (Gp f) (Oo f) i n 0).run=some (XD .inr (.inl ()) (n.findSome? (pick (K1 f)))):=by
  intro i n hn
  refine fH (r:=jo (Gp f) (Oo f) i n) n (zb .str) (pick (K1 f)) (fun i=>i) .inr (.inl ()) (fun k x Y4 hx hm => ?_) ?_
  ·unfold jo
   dsimp only
   rw[za (qQ Y4),hx,zc (zo Y4),z6 (bf _ x hk)]
   unfold pick K1
   by_cases q:x∈Oo f
   ·rw[decide_eq_true q,z8 (by rfl),z7,vA k _ Y4 (by omega)]; rfl
   ·rw[decide_eq_false q,za (by rfl),zc (zo Y4),z7]; rfl
  ·unfold jo
   rw[z8 (xo _),z7]
 have k0:(pL (Gp f) (Oo f) 0).run=some (XD .inr (.inl ()) ((Gp f).findSome? fun e=>(nmE e []).findSome? (pick (K1 f)))):=by
  refine fH (r:=jg (Gp f) (Oo f)) (Gp f) (zb .expr) (fun e=>(nmE e []).findSome? (pick (K1 f))) (fun i=>i) .inr (.inl ()) (fun k x Y4 hx hm => ?_) ?_
  ·have Ef:=z7M h x hm
   unfold jg
   dsimp only
   rw[za (qQ Y4),hx,zc (zo Y4),z6 (rH _ (Nat.le_trans (jN Ef) (by decide))),← Rk,z6 (kin _ _ (Nat.le_trans (Qm Ef) (by decide)))]
   cases(nmE x []).findSome? (pick (K1 f))with
   | some z=>rfl
   | none =>
    show T.run (T.ret (Sum.inl (zu ((k:Int)+1))):T (Int⊕(Unit⊕zf)))=_
    rw[z7,vA k _ Y4 (by omega)]; rfl
  ·unfold jg
   rw[z8 (xo _),z7]
 unfold ba
 rw[z6 k0]
 unfold Pj nmX
 rw[GA]
 cases(Gp f).findSome? fun e=>(nmE e []).findSome? (pick (K1 f))<;>rfl
theorem dt{α:Type}(l:List α):List.drop 0 (List.take (0+l.length) l)=l:=by simp
theorem CL{s:zf}(h:w9 s=true):zM s []=false:=by
 cases s with
 | nil=>cases h
 | cons b r=>rw[wx]; exact decide_eq_false (by simp)
mutual
theorem GF:∀ (e:Expr) (d:Nat),vf d e=true→∀ x∈allE e,w9 x=true
 | .mk k n s l,d,h,x,hx=>by
  unfold vf at h
  rw[Bool.and_eq_true,Bool.and_eq_true]at h
  unfold allE at hx
  rcases List.mem_append.1 hx with hx | hx
  ·by_cases hk:k=2
   ·rw[if_pos hk,List.mem_singleton]at hx
    have Fi:=hx
    have h2:=h.2.1
    unfold dW at h2
    rw[Bool.and_eq_true]at h2
    have h3:=h2.2
    subst hk
    rw[Fi]
    rw[if_neg (by show ¬ (2:Int)=1; decide),if_pos (by rfl),Bool.and_eq_true]at h3
    exact h3.2
   ·rw[if_neg hk]at hx; cases hx
  ·exact Y7 l (d+1) h.2.2 x hx
theorem Y7:∀ (l:List Expr) (d:Nat),yd d l=true→∀ x∈allEs l,w9 x=true
 | [],d,h,x,hx=>by cases hx
 | e::r,d,h,x,hx=>by
  unfold yd at h
  rw[Bool.and_eq_true]at h
  unfold allEs at hx
  rcases List.mem_append.1 hx with hx | hx
  ·exact GF e d h.1 x hx
  ·exact Y7 r d h.2 x hx
end
theorem UX{α:Type}{p:α→Bool}{l:List α}(h:(!l.any p)=true):∀ x∈l,p x=false:=by
 rw[Bool.not_eq_true',List.any_eq_false]at h
 exact fun x hx=>Bool.not_eq_true _ |>.mp (h x hx)
theorem Qo{f:Form}(h:rm f=true):a1 f=true∧a2 f=true∧a3 f=true∧a4 f=true∧a5 f=true∧a6 f=true:=by
 unfold rm at h
 simp only[Bool.and_eq_true]at h
 exact⟨h.1,h.2.1,h.2.2.1,h.2.2.2.1,h.2.2.2.2.1,h.2.2.2.2.2.1⟩
theorem Gd{f:Form}(h:rm f=true){x:uP}(hx:x∈f.2.2.2.2.1):w9 x.1=true∧nL x.2.2.1=true∧0≤x.2.1∧x.2.1≤3∧vf 0 x.2.2.2.1=true∧vf 0 x.2.2.2.2.1=true:=by
 have:=UX (Qo h).2.2.2.2.2 x hx
 unfold W3 at this
 simp only[Bool.or_eq_false_iff,Bool.not_eq_false',decide_eq_false_iff_not]at this
 exact⟨this.1,this.2.1,Int.not_lt.1 this.2.2.1,Int.not_lt.1 this.2.2.2.1,this.2.2.2.2.1,this.2.2.2.2.2⟩
theorem JH{f:Form}(h:rm f=true){x:Check}(hx:x∈f.2.2.2.2.2.1):w9 x.1=true∧vf 0 x.2.2.2.1=true∧vf 0 x.2.2.2.2.1=true:=by
 obtain⟨b,this⟩:=nn (Qo h).2.2.2.2.1 x hx
 unfold Uv at this
 simp only[Bool.or_eq_false_iff,Bool.not_eq_false']at this
 exact⟨this.2.2.1,this.2.2.2.2.2.1,this.2.2.2.2.2.2⟩
theorem Ql{f:Form}(h:rm f=true):∀ s∈Zh f,w9 s=true:=by
 have hp:=Qo h
 intro s hs
 unfold Zh at hs
 simp only[List.mem_append,List.mem_map,or_assoc]at hs
 rcases hs with⟨x,hx,rfl⟩ | ⟨x,hx,rfl⟩ | ⟨x,hx,rfl⟩ | ⟨x,hx,rfl⟩ | ⟨x,hx,rfl⟩ | ⟨x,hx,rfl⟩
 ·have:=UX hp.1 x hx
  unfold Ky at this
  rwa [Bool.not_eq_false']at this
 ·have:=UX hp.2.1 x hx
  unfold fK at this
  simp only[Bool.or_eq_false_iff,Bool.not_eq_false']at this
  exact this.1
 ·have:=UX hp.2.2.1 x hx
  unfold KC at this
  simp only[Bool.or_eq_false_iff,Bool.not_eq_false']at this
  exact this.1
 ·obtain⟨b,this⟩:=nn hp.2.2.2.1 x hx
  unfold UD at this
  simp only[Bool.or_eq_false_iff,Bool.not_eq_false']at this
  exact this.2.2.1
 ·exact(Gd h hx).1
 ·exact(JH h hx).1
theorem z42{f:Form}(h:rm f=true):∀ e∈Gp f,vf 0 e=true:=by
 intro e he
 unfold Gp at he
 rcases List.mem_append.1 he with he | he<;>obtain⟨x,hx,he⟩:=List.mem_flatMap.1 he
 ·have:=JH h hx
  rcases List.mem_cons.1 he with rfl | he
  ·exact this.2.1
  ·rw[List.mem_singleton.1 he]; exact this.2.2
 ·have:=Gd h hx
  rcases List.mem_cons.1 he with rfl | he
  ·exact this.2.2.2.2.1
  ·rw[List.mem_singleton.1 he]; exact this.2.2.2.2.2
theorem z5S{f:Form}(h:rm f=true){s:zf}(hs:Pj f=some s):w9 s=true:=by
 have:=(G7 hs).1
 unfold nmX at this
 obtain⟨e,he,hm⟩:=List.mem_flatMap.1 this
 rcases(B4 e [] s).1 hm with q | q
 ·cases q
 ·exact GF e 0 (z42 h e he) s q
def K7(f:Form)(x:uP):Option zf:=if(!dH (f.2.2.2.1.map (·.1)) x.2.2.2.1 || !dH (f.2.2.2.1.map (·.1)) x.2.2.2.2.1)=true then some x.1 else none
def lnF(f:Form):Option zf:=f.2.2.2.2.1.findSome? (K7 f)
def BU(f:Form):Int×zf :=
 if rm f=true then
  if(Zg [] (Zh f)).2=true then(5,(Zg [] (Zh f)).1)
  else XD (fun n=>((5:Int),n)) (XD (fun n=>(5,n)) (XD (fun n=>(6,n)) (0,[]) (lnF f)) (Pj f)) (OX f)
 else(2,[])
theorem Tm{f:Form}(h:FS f):(f.2.2.2.1.map (·.1)).length≤30:=by
 have:=h.n
 rw[List.length_map]; omega
theorem I8(f:Form)(h:FS f):(fq f).run=some (BU f):=by
 have hn:=h.n
 have k0:(pM f f.2.2.2.1 (f.2.2.2.1.length:Int) (0,[])).run=some ([]++f.2.2.2.1.map (·.1)):=by
  refine uj (r:=jl f f.2.2.2.1 (f.2.2.2.1.length:Int)) f.2.2.2.1 (zb qc) (·.1) [] (fun k b x hk hx hm hb => ?_) (fun b => ?_) (by simp only[List.length_nil]; omega)
  ·unfold jl
   dsimp only
   rw[hx,za (qQ hk),zc (zo hk),xi _ rfl rfl rfl (by omega),ze _ (by simp) rfl (by simp),zc (by simp),z7,vA k _ hk (by omega)]
  ·unfold jl
   dsimp only
   rw[z8 (xo _),ze _ rfl rfl rfl,T.zk,z7]
 have hF:=Tm h
 have k1:(rh f.2.2.2.2.1 (f.2.2.2.2.1.length:Int) (0,f.2.2.2.1.map (·.1))).run=some (XD (fun n=>.inr (6,(n,f.2.2.2.1.map (·.1)))) (.inl (f.2.2.2.1.map (·.1))) (lnF f)):=by
  refine fH (r:=jn f.2.2.2.2.1 (f.2.2.2.2.1.length:Int)) f.2.2.2.2.1 (zb zl) (K7 f) (fun i=>(i,f.2.2.2.1.map (·.1))) _ _ (fun k x hk hx hm => ?_) ?_
  ·have hc:=(h.r x hm).2.2
   unfold jn K7
   dsimp only
   rw[hx,za (qQ hk),zc (zo hk),gw,gw,dt]
   have l1:=Y9 x.2.2.2.1 (f.2.2.2.1.map (·.1)) (Nat.le_trans (jN hc.1) (by decide)) (by omega)
   have l2:=Y9 x.2.2.2.2.1 (f.2.2.2.1.map (·.1)) (Nat.le_trans (jN hc.2) (by decide)) (by omega)
   cases hl:dH (f.2.2.2.1.map (·.1)) x.2.2.2.1 with
   | false =>
    rw[hl]at l1
    refine(z6 (a:=(true,(f.2.2.2.1.map (·.1),x))) ?_ _).trans ?_
    ·rw[T.zk,z6 l1,za (by rfl),ze _ rfl rfl rfl,T.zk,z7]
    ·dsimp only
     rw[zD,T.zk,z7]; rfl
   | true =>
    rw[hl]at l1
    refine(z6 (a:=(!dH (f.2.2.2.1.map (·.1)) x.2.2.2.2.1,(f.2.2.2.1.map (·.1),x))) ?_ _).trans ?_
    ·rw[T.zk,z6 l1,z8 (by rfl),T.zk,z6 l2,ze _ rfl rfl rfl,T.zk,z7]
    ·dsimp only
     cases dH (f.2.2.2.1.map (·.1)) x.2.2.2.2.1 with
     | false=>rw[Bool.not_false,zD,T.zk,z7]; rfl
     | true=>rw[Bool.not_true,zr,ze _ rfl rfl rfl,T.zk,z7,vA k _ hk (by omega)]; rfl
  ·unfold jn
   dsimp only
   rw[z8 (xo _),T.zk,z7]
 unfold fq BU
 rw[z6 (HY f h)]
 cases hI:rm f with
 | false=>rw[za (by rfl),z7]; rfl
 | true =>
  have N3:=Ql hI
  have h64:(decide ((64:Int)<(f.2.2.2.1.length:Int))||decide ((64:Int)<(f.2.2.2.2.1.length:Int)))=false:=by
   rw[decide_eq_false (by omega),decide_eq_false (by omega)]; rfl
  have TG:(Zh f).length≤1000000:=by unfold Zh; simp only[List.length_append,List.length_map]; omega
  rw[z8 (by rfl),z8 h64,z6 (Uw f h),z6 (Ur _ TG (fun s hs=>by
   have:=N3 s hs
   cases s with
   | nil=>exact Nat.zero_le _
   | cons b r =>
    unfold w9 at this
    rw[Bool.and_eq_true,decide_eq_true_eq]at this
    omega)),if_pos rfl]
  cases ht:(Zg [] (Zh f)).2 with
  | true=>rw[if_pos rfl]; dsimp only; rw[ht,zD,z7]
  | false =>
   rw[if_neg (by decide)]
   dsimp only
   rw[ht,zr,z6 (Zi f h)]
   cases OX f with
   | some n=>rfl
   | none =>
    show T.run (T.ite false _ _)=_
    rw[zr,ze _ rfl rfl rfl,T.zk,z6 k0,List.nil_append,T.zk,dt,z6 (Wq f h)]
    cases Pj f with
    | some n=>rfl
    | none =>
     show T.run (T.ite false _ _)=_
     rw[zr,ze _ rfl rfl rfl,T.zk,z6 k1]
     cases lnF f<;>rfl
theorem UE(f:Form)(h:FS f):(lA f).run=some (BU f):=by
 have hn:=h.n
 have hF:=Tm h
 have k0:(iJ f (f.2.2.2.1.map (·.1)) (0,f.2.2.2.1.map (·.1))).run=some (Oo f):=by
  refine uj (r:=kz f (f.2.2.2.1.map (·.1))) f.2.1 (zb q8) (·.1) _ (fun k b x hk hx hm hb => ?_) (fun b => ?_) (by omega)
  ·unfold kz
   dsimp only
   rw[hx,za (qQ hk),zc (zo hk),xi _ rfl rfl rfl (by omega),ze _ (by simp) rfl (by simp),zc (by simp),z7,vA k _ hk (by omega)]
  ·unfold kz
   dsimp only
   rw[z8 (xo _),ze _ rfl rfl rfl,T.zk,z7]
 have k1:(so f (f.2.2.2.1.map (·.1)) 0).run=some (XD (fun n=>.inr (6,n)) (.inl ()) (lnF f)):=by
  refine fH (r:=kR f (f.2.2.2.1.map (·.1))) f.2.2.2.2.1 (zb zl) (K7 f) (fun i=>i) _ _ (fun k x hk hx hm => ?_) ?_
  ·have hc:=(h.r x hm).2.2
   unfold kR K7
   dsimp only
   rw[hx,za (qQ hk)]
   have l1:=pK x.2.2.2.1 (f.2.2.2.1.map (·.1)) (Nat.le_trans (jN hc.1) (by decide)) (by omega)
   have l2:=pK x.2.2.2.2.1 (f.2.2.2.1.map (·.1)) (Nat.le_trans (jN hc.2) (by decide)) (by omega)
   cases hl:dH (f.2.2.2.1.map (·.1)) x.2.2.2.1 with
   | false =>
    rw[hl]at l1
    refine(z6 (a:=true) ?_ _).trans ?_
    ·rw[zc (zo hk),z6 l1,za (by rfl),z7]
    ·rw[zD,zc (zo hk),z7]; rfl
   | true =>
    rw[hl]at l1
    refine(z6 (a := !dH (f.2.2.2.1.map (·.1)) x.2.2.2.2.1) ?_ _).trans ?_
    ·rw[zc (zo hk),z6 l1,z8 (by rfl),zc (zo hk),z6 l2,z7]
    ·cases dH (f.2.2.2.1.map (·.1)) x.2.2.2.2.1 with
     | false=>rw[Bool.not_false,zD,zc (zo hk),z7]; rfl
     | true=>rw[Bool.not_true,zr,z7,vA k _ hk (by omega)]; rfl
  ·unfold kR
   rw[z8 (xo _),z7]
 have kl:(Oo f).length≤1000:=by unfold Oo; simp only[List.length_append,List.length_map]; omega
 unfold lA BU
 rw[z6 (Cc f h)]
 cases hI:rm f with
 | false=>rw[za (by rfl),z7]; rfl
 | true =>
  have N3:=Ql hI
  have h64:(decide ((64:Int)<(f.2.2.2.1.length:Int))||decide ((64:Int)<(f.2.2.2.2.1.length:Int)))=false:=by
   rw[decide_eq_false (by omega),decide_eq_false (by omega)]; rfl
  have TG:(Zh f).length≤1000000:=by unfold Zh; simp only[List.length_append,List.length_map]; omega
  have mid:∀ s:zf,zM s []=true→(.ite (zM s ([]:zf))
        (.zd (xF (0:Nat) (0:Nat) (0:Nat) (0:Nat) (0:Nat) (List.length (f.2.2.2.1.map (·.1))) (16:Nat)) <|
         .zd (zh ((0:Nat)+(List.length (f.2.2.2.1.map (·.1)))) (0:Nat) ((0:Nat)+(List.length (f.2.2.2.1.map (·.1)))) (List.length (f.2.2.2.1.map (·.1)))) <|
         .zd (((0:Nat)+(List.length (f.2.2.2.1.map (·.1))))=(List.length (f.2.2.2.1.map (·.1)))) <|
         T.bind (iJ f (f.2.2.2.1.map (·.1)) ((0:Int),(f.2.2.2.1.map (·.1)))) fun zE =>
         T.bind (fX f) fun r2 =>
         .zd ((List.length zE)=(List.length zE)) <|
         T.bind (ba r2 (List.drop (0:Nat) (List.take ((0:Nat)+(List.length zE)) zE))) fun s3 =>
         .ret s3)
        (.ret s):T (zf)).run=some ((Pj f).getD []):=fun s hs=>by
   rw[za hs,xi _ rfl rfl rfl (by omega),ze _ (by omega) rfl (by omega),zc (by omega),z6 k0,z6 (NN f h),T.zk,dt,z6 (V6 f h),z7]
  have z8g:∀ s:zf,zM s []=false→∀ t:T zf,(.ite (zM s ([]:zf)) t (.ret s):T (zf)).run=some s:=fun s hs t=>by
   rw[z8 hs,z7]
  have fin:∀ s:zf,zM s []=false→∀ t:T (Int×zf),(.ite (!(zM s ([]:zf))) (.ret ((5:Int),s)) t:T (Int×zf)).run=some (5,s):=fun s hs t=>by
   rw[hs,za (by rfl),z7]
  rw[z8 (by rfl),z8 h64,z6 (Js f h),z6 (Jw _ TG),if_pos rfl]
  cases ht:(Zg [] (Zh f)).2 with
  | true =>
   have hs:=CL (N3 _ (MZ _ _ ht))
   rw[if_pos rfl,z6 (z8g _ hs _),z6 (ot f h),z6 (z8g _ hs _),fin _ hs]
  | false =>
   rw[if_neg (by decide),Kf _ _ ht]
   have e1:(.ite (zM ([]:zf) ([]:zf)) (T.bind (dV f) fun s1=>.ret s1) (.ret []):T zf).run=some ((OX f).getD []):=by
    rw[za (by rfl),z6 (UC f h),z7]
   rw[z6 e1,z6 (ot f h)]
   cases hg:OX f with
   | some n =>
    have hs:=z6f hg
    exact(z6 (z8g n hs _) _).trans (fin n hs _)
   | none =>
    refine(z6 (mid [] rfl) _).trans ?_
    cases hk:Pj f with
    | some n=>exact fin _ (CL (z5S hI hk)) _
    | none =>
     show T.run (T.ite (!zM [] []) _ _)=_
     rw[z8 (by rfl),z6 k1]
     cases lnF f<;>rfl
theorem z82{f:Form}(h:(BU f).1=0):rm f=true∧(Zg [] (Zh f)).2=false∧OX f=none∧Pj f=none∧lnF f=none:=by
 unfold BU at h
 cases hI:rm f with
 | false=>rw[hI,if_neg (by decide)]at h; cases h
 | true =>
  rw[hI,if_pos rfl]at h
  cases ht:(Zg [] (Zh f)).2 with
  | true=>rw[ht,if_pos rfl]at h; cases h
  | false =>
   rw[ht,if_neg (by decide)]at h
   cases hg:OX f with
   | some n=>rw[hg]at h; cases h
   | none =>
    rw[hg]at h
    cases hk:Pj f with
    | some n=>rw[hk]at h; cases h
    | none =>
     rw[hk]at h
     cases hl:lnF f with
     | some n=>rw[hl]at h; cases h
     | none=>exact⟨rfl,rfl,rfl,rfl,rfl⟩
theorem Hg(l:List Switch)(g:Switch→T Bool)(p:Switch→Bool)(hg:∀ x∈l,(g x).run=some (p x))(hl:l.length≤1000000000):(qq l g).run=some (PL.vu p 0 l):=by
 have key:(wZ l g (l.length:Int) 0).run=some (if PL.vu p 0 l = -1 then .inl ()else .inr (PL.vu p 0 l)):=by
  refine PL.gv l (zb zZ) p (fun i h hi hp => ?_) (fun i h hi hp => ?_) (fun i hi => ?_)
  ·have hm:=vp (d:=zb zZ) h hi
   simp(disch:=omega) [qh,hi,hg _ hm,hp]
  ·have hm:=vp (d:=zb zZ) h hi
   simp(disch:=omega) [qh,hi,hg _ hm,hp]
  ·simp[qh,hi]
 unfold qq
 rw[z6 key]
 split<;>rename_i h<;>simp[h]
def SV(sw:List Switch)(w:zf):Int:=PL.vu (fun s=>zM s.1 w) 0 sw
def LL(sw:List Switch)(on:List Bool)(w:zf):Bool:=if 0≤SV sw w then nth on (SV sw w) false else zM w []
theorem Lu(sw:List Switch)(w:zf):SV sw w = -1∨(0≤SV sw w∧SV sw w<sw.length):=IA _ sw
theorem BR{α:Type}(p:α→Bool):∀ (l:List α) (i:Int),(∀ x∈l,p x=false)→PL.vu p i l = -1
 | [],_,_=>rfl
 | x::r,i,h=>by
  rw[XI,if_neg (by rw[h x List.mem_cons_self]; simp)]
  exact BR p r (i+1) fun y hy=>h y (List.mem_cons_of_mem _ hy)
theorem S3(f:Form)(on:List Bool)(w:zf)(hl:f.1.length≤1000000000)(ho:on.length=f.1.length)(hn:∀ s∈f.1,s.1≠[]):(tM f on w).run=some (LL f.1 on w):=by
 have hi:=Hg f.1 (fun z0=>y6 z0 w) (fun s=>zM s.1 w) (fun x _=>rfl) hl
 have hi:(qq f.1 (fun z0=>y6 z0 w)).run=some (SV f.1 w):=hi
 have hr:=Lu f.1 w
 unfold tM LL
 rw[z6 hi,zc (fun _ h=>by
  have:=of_decide_eq_true h
  exact⟨this,by omega⟩),z7]
 congr 1
 by_cases c:0≤SV f.1 w
 ·have hw:zM w []=false:=by
   rw[wx]
   refine decide_eq_false ?_
   rintro rfl
   have:SV f.1 [] = -1:=BR _ _ _ fun s hs=>by rw[wx]; exact decide_eq_false (hn s hs)
   omega
  rw[if_pos c,hw,decide_eq_true c,Bool.false_or,Bool.true_and]
  rfl
 ·rw[if_neg c,decide_eq_false c,Bool.false_and,Bool.or_false]
theorem z7v(f:Form)(on:List Bool)(w:zf)(hl:f.1.length≤1000000000)(ho:on.length=f.1.length):(J0 f on w).run=some (LL f.1 on w):=by
 have key:∀ (m k:Nat),k+m=f.1.length→(Qr on w f (k:Int)).run=some (if PL.vu (fun s:Switch=>zM s.1 w) (k:Int) (f.1.drop k) = -1 then .inl ()else .inr (nth on (PL.vu (fun s:Switch=>zM s.1 w) (k:Int) (f.1.drop k)) false)):=by
  intro m
  induction m with
  | zero =>
   intro k hk
   have:k=f.1.length:=by omega
   subst this
   rw[List.drop_length]
   refine ql ?_
   unfold fU
   dsimp only
   rw[z8 (xo _),z7]
   rfl
  | succ m ih =>
   intro k hk
   have h1:k<f.1.length:=by omega
   rw[List.drop_eq_getElem_cons h1,XI]
   by_cases c:zM f.1[k].1 w=true
   ·rw[if_pos c,if_neg (by omega)]
    refine ql ?_
    unfold fU
    dsimp only
    rw[za (qQ h1),zc (zo h1),xh h1,za c,zc (fun _=>zo (by omega)),z7,qQ (show k<on.length by omega),Bool.true_and]
    rfl
   ·rw[if_neg c]
    refine(qK (s':=((k+1:Nat):Int)) ?_).trans (ih (k+1) (by omega))
    unfold fU
    dsimp only
    rw[za (qQ h1),zc (zo h1),xh h1,z8 (by simpa using c),z7,vA k _ h1 (by omega)]
 have hk:=key f.1.length 0 (by omega)
 rw[List.drop_zero]at hk
 have hk:(Qr on w f (0:Int)).run=some (if SV f.1 w = -1 then .inl ()else .inr (nth on (SV f.1 w) false)):=hk
 have hr:=Lu f.1 w
 unfold J0 LL
 rw[z6 hk]
 by_cases c:SV f.1 w = -1
 ·rw[if_pos c,if_neg (by omega)]; rfl
 ·rw[if_neg c,if_pos (by omega)]; rfl
def Zl(q:Q):Bool:=wX (qR q)
def Us(c:AC):Bool:=Zl c.2||c.1.any fun t=>Zl t.2
theorem Dq(l:List Term)(g:Term→T Bool)(p:Term→Bool)(hg:∀ x∈l,(g x).run=some (p x))(hl:l.length≤1000000000):(xj l g).run=some (l.any p):=by
 have key:(jI l g (l.length:Int) 0).run=some (if PL.vu p 0 l = -1 then .inl ()else .inr (PL.vu p 0 l)):=by
  refine PL.gv l (zb zp) p (fun i h hi hp => ?_) (fun i h hi hp => ?_) (fun i hi => ?_)
  ·have hm:=vp (d:=zb zp) h hi
   simp(disch:=omega) [xD,hi,hg _ hm,hp]
  ·have hm:=vp (d:=zb zp) h hi
   simp(disch:=omega) [xD,hi,hg _ hm,hp]
  ·simp[xD,hi]
 have hx:(wM l g).run=some (PL.vu p 0 l):=by
  unfold wM
  rw[z6 key]
  split<;>rename_i h<;>simp[h]
 unfold xj
 rw[z6 hx,z7,PL.eV _ _ _ (Int.le_refl 0)]
theorem Fg(s:Int)(c:AC)(hc:Vt 1000000 c)(hl:c.1.length≤1000000):(oO (qZ s c)).run=some (Us c):=by
 have hk:=yN (qR c.2) (xM (qF (by have:=hc.1; omega:qX c.2≤1000000)) (by omega))
 have ht:(xj (c.1.map qw) (fun z0=>vt z0)).run=some ((c.1.map qw).any fun t=>wX t.2.1):=by
  refine Dq _ _ _ (fun x hx => ?_) (by rw[List.length_map]; omega)
  obtain⟨t,ht,rfl⟩:=List.mem_map.1 hx
  have:=yN (qR t.2) (xM (qF (by have:=hc.2 t ht; omega:qX t.2≤1000000)) (by omega))
  unfold vt
  show(T.bind (uX (qR t.2)) _).run=_
  rw[z6 this,z7]
  rfl
 unfold oO Us
 show(T.bind (uX (qR c.2)) _).run=_
 rw[z6 hk]
 cases h:wX (qR c.2)with
 | true=>rw[zD,z7]; unfold Zl; rw[h]; rfl
 | false =>
  rw[zr]
  show(T.bind (xj (c.1.map qw) (fun z0=>vt z0)) _).run=_
  rw[z6 ht,z7,List.any_map]
  unfold Zl
  rw[h]
  rfl
theorem Kd(s:Int)(c:AC)(hc:Vt 1000000 c)(hl:c.1.length≤1000000):(pB (qZ s c)).run=some (Us c):=by
 have hK:=iv (qR c.2) (xM (qF (by have:=hc.1; omega:qX c.2≤1000000)) (by omega))
 have key:∀ (m k:Nat),k+m=c.1.length→(mA (qZ s c) (k:Int)).run=some (if(c.1.drop k).any (fun t=>Zl t.2)=true then .inr true else .inl ()):=by
  intro m
  induction m with
  | zero =>
   intro k hk
   have:k=c.1.length:=by omega
   subst this
   rw[List.drop_length]
   refine ql ?_
   unfold yF
   dsimp only
   rw[show(qZ s c).2.1=c.1.map qw from rfl,List.length_map,z8 (xo _),z7]
   rfl
  | succ m ih =>
   intro k hk
   have h1:k<c.1.length:=by omega
   have nG:k<(c.1.map qw).length:=by rw[List.length_map]; exact h1
   have hq:=hc.2 _ (List.getElem_mem h1)
   have hL:=iv (qR c.1[k].2) (xM (qF hq) (by omega))
   rw[List.drop_eq_getElem_cons h1,List.any_cons]
   have st:(yF (qZ s c) (k:Int)).run=some (if Zl c.1[k].2=true then .inr (.inr true)else .inl ((k+1:Nat):Int)):=by
    unfold yF
    dsimp only
    rw[show(qZ s c).2.1=c.1.map qw from rfl,za (by rw[List.length_map]; exact qQ h1),zc (zo nG),xh nG,List.getElem_map]
    show(T.bind (kg (qR c.1[k].2)) _).run=_
    rw[z6 hL]
    unfold Zl
    cases wX (qR c.1[k].2)with
    | true=>rfl
    | false=>rw[zr,z7,vA k _ h1 (by omega)]; rfl
   cases q:Zl c.1[k].2 with
   | true =>
    rw[q,if_pos rfl]at st
    rw[Bool.true_or,if_pos rfl]
    exact ql st
   | false =>
    rw[q,if_neg (by simp)]at st
    rw[Bool.false_or]
    exact(qK st).trans (ih (k+1) (by omega))
 have hk:=key c.1.length 0 (by omega)
 rw[List.drop_zero]at hk
 have hk:(mA (qZ s c) (0:Int)).run=_:=hk
 unfold pB Us
 rw[z6 hk]
 cases q:c.1.any fun t=>Zl t.2 with
 | true=>rw[if_pos rfl,Bool.or_true]; rfl
 | false =>
  rw[if_neg (by simp),Sum.elim_inl,Bool.or_false]
  show(T.bind (kg (qR c.2)) _).run=_
  rw[z6 hK,z7]
  rfl
inductive EL where
 | er (name:zf) (e:Int)
 | ok (l:List (AC×Int×Int))
def Um(v:zB)(sw:List Switch)(on:List Bool):Nat→List uP→List (AC×Int×Int)→EL
 | _,[],acc=>.ok acc
 | k,r::rs,acc=>if LL sw on r.2.2.1=true then
   (if(j9 v r.2.2.2.1 r.2.2.2.2.1).2≠0 then .er r.1 (j9 v r.2.2.2.1 r.2.2.2.2.1).2 else Um v sw on (k+1) rs (acc++[((j9 v r.2.2.2.1 r.2.2.2.2.1).1,(r.2.1,(k:Int)))]))
  else Um v sw on (k+1) rs acc
def uG(l:List (AC×Int×Int)):List wF:=l.map fun x=>qZ x.2.1 x.1
def uK(l:List (AC×Int×Int)):List Int:=l.map fun x=>x.2.2
structure z6e(r:uP):Prop where
 a1:allOk r.2.2.2.1
 a2:allOk r.2.2.2.2.1
 n1:xU r.2.2.2.1≤100000
 n2:xU r.2.2.2.2.1≤100000
 b1:bkE r.2.2.2.1≤1000000000
 b2:bkE r.2.2.2.2.1≤1000000000
theorem sI(l:List (AC×Int×Int)):(uG l).length=l.length:=List.length_map ..
theorem sE(l:List (AC×Int×Int)):(uK l).length=l.length:=List.length_map ..
theorem Hc(l:List (AC×Int×Int))(c:AC)(s k:Int):uG (l++[(c,(s,k))])=uG l++[qZ s c]:=by unfold uG; rw[List.map_append]; rfl
theorem Gc(l:List (AC×Int×Int))(c:AC)(s k:Int):uK (l++[(c,(s,k))])=uK l++[k]:=by unfold uK; rw[List.map_append]; rfl
theorem PI(f:Form)(on:List Bool)(v:zB)(hv:kv v)(hl:f.1.length≤1000000000)(ho:on.length=f.1.length)(hn:∀ s∈f.1,s.1≠[])(hr:∀ r∈f.2.2.2.2.1,z6e r)(hrl:f.2.2.2.2.1.length≤1000000)(a0:qU) :
  ∀ (m k:Nat) (acc:List (AC×Int×Int)),k+m=f.2.2.2.2.1.length→acc.length≤k →
   match Um v f.1 on k (f.2.2.2.2.1.drop k) acc with
   | .ok l=>(yg on f f.2.2.2.2.1 (f.2.2.2.2.1.length:Int) ((k:Int),(a0,((),(v,(uG acc,uK acc)))))).run=some (.inl (a0,((),(v,(uG l,uK l)))))
   | .er nm e=>e≠0∧∃ z,(yg on f f.2.2.2.2.1 (f.2.2.2.2.1.length:Int) ((k:Int),(a0,((),(v,(uG acc,uK acc)))))).run=some (.inr (nm,(e,((([]:List wF),(([]:List Int),())),z)))):=by
 intro m
 induction m with
 | zero =>
  intro k acc hk ha
  have:k=f.2.2.2.2.1.length:=by omega
  subst this
  rw[List.drop_length]
  show(yg on f f.2.2.2.2.1 (f.2.2.2.2.1.length:Int) _).run=_
  refine ql ?_
  unfold uk
  dsimp only
  rw[z8 (xo _),ze _ rfl rfl rfl,ze _ rfl rfl rfl,zy _ rfl,zy _ rfl,z7]
 | succ m ih =>
  intro k acc hk ha
  have h1:k<f.2.2.2.2.1.length:=by omega
  have Gj:=hr _ (List.getElem_mem h1)
  have Oh:=S3 f on f.2.2.2.2.1[k].2.2.1 hl ho hn
  have hsd:=EX hv f.2.2.2.2.1[k] Gj.a1 Gj.a2 Gj.n1 Gj.n2
  have cl:=sI acc
  have rl:=sE acc
  rw[List.drop_eq_getElem_cons h1]
  unfold Um
  by_cases c:LL f.1 on f.2.2.2.2.1[k].2.2.1=true
  ·rw[if_pos c]
   by_cases e:(j9 v f.2.2.2.2.1[k].2.2.2.1 f.2.2.2.2.1[k].2.2.2.2.1).2≠0
   ·rw[if_pos e]
    refine⟨e,((),(v,(uG acc,uK acc))),?_⟩
    refine ql ?_
    unfold uk
    dsimp only
    rw[za (qQ h1),zc (zo h1),xh h1,z6 Oh,z8 (by rw[c]; rfl),z6 hsd]
    generalize j9 v f.2.2.2.2.1[k].2.2.2.1 f.2.2.2.2.1[k].2.2.2.2.1=S at e ⊢
    obtain⟨S1,S2⟩:=S
    rw[ng e]
    dsimp only at e ⊢
    rw[za (by simpa using e),ze _ rfl rfl rfl,ze _ rfl rfl rfl,zy _ rfl,zy _ rfl,z7]
   ·rw[if_neg e]
    have Hq:=ih (k+1) (acc++[((j9 v f.2.2.2.2.1[k].2.2.2.1 f.2.2.2.2.1[k].2.2.2.2.1).1,(f.2.2.2.2.1[k].2.1,(k:Int)))]) (by omega) (by rw[List.length_append,List.length_singleton]; omega)
    have st:(uk on f f.2.2.2.2.1 (f.2.2.2.2.1.length:Int) ((k:Int),(a0,((),(v,(uG acc,uK acc)))))).run=some (.inl (((k+1:Nat):Int),(a0,((),(v,(uG (acc++[((j9 v f.2.2.2.2.1[k].2.2.2.1 f.2.2.2.2.1[k].2.2.2.2.1).1,(f.2.2.2.2.1[k].2.1,(k:Int)))]),uK (acc++[((j9 v f.2.2.2.2.1[k].2.2.2.1 f.2.2.2.2.1[k].2.2.2.2.1).1,(f.2.2.2.2.1[k].2.1,(k:Int)))]))))))):=by
     rw[Hc,Gc]
     unfold uk
     dsimp only
     rw[za (qQ h1),zc (zo h1),xh h1,z6 Oh,z8 (by rw[c]; rfl),z6 hsd]
     generalize j9 v f.2.2.2.2.1[k].2.2.2.1 f.2.2.2.2.1[k].2.2.2.2.1=S at e ⊢
     obtain⟨S1,S2⟩:=S
     have:S2=0:=by simpa using e
     subst this
     rw[Ja]
     dsimp only
     rw[z8 (by rfl),xi _ rfl rfl rfl (by omega),xi _ rfl rfl rfl (by omega),ze _ (by simp) rfl (by simp),ze _ (by simp) rfl (by simp),zy _ (by simp),zy _ (by simp),z7,vA k _ h1 (by omega)]
    cases w:Um v f.1 on (k+1) (f.2.2.2.2.1.drop (k+1)) (acc++[((j9 v f.2.2.2.2.1[k].2.2.2.1 f.2.2.2.2.1[k].2.2.2.2.1).1,(f.2.2.2.2.1[k].2.1,(k:Int)))])with
    | ok l=>rw[w]at Hq; exact(qK st).trans Hq
    | er nm x=>rw[w]at Hq; obtain⟨g1,z,g2⟩:=Hq; exact⟨g1,z,(qK st).trans g2⟩
  ·rw[if_neg c]
   have Hq:=ih (k+1) acc (by omega) (by omega)
   have st:(uk on f f.2.2.2.2.1 (f.2.2.2.2.1.length:Int) ((k:Int),(a0,((),(v,(uG acc,uK acc)))))).run=some (.inl (((k+1:Nat):Int),(a0,((),(v,(uG acc,uK acc)))))):=by
    unfold uk
    dsimp only
    rw[za (qQ h1),zc (zo h1),xh h1,z6 Oh,za (by rw[show LL f.1 on f.2.2.2.2.1[k].2.2.1=false by simpa using c]; rfl),ze _ rfl rfl rfl,ze _ rfl rfl rfl,zy _ rfl,zy _ rfl,z7,vA k _ h1 (by omega)]
   cases w:Um v f.1 on (k+1) (f.2.2.2.2.1.drop (k+1)) acc with
   | ok l=>rw[w]at Hq; exact(qK st).trans Hq
   | er nm x=>rw[w]at Hq; obtain⟨g1,z,g2⟩:=Hq; exact⟨g1,z,(qK st).trans g2⟩
def V8(X:List Rat)(j:Int):Q:=if 0≤j∧j<(X.length:Int)then val (nth X j (zb zt))else 0
def nH(X:List Rat):List (Int×Q)→Q
 | []=>0
 | t::r=>t.2*V8 X t.1+nH X r
def mG(X:List Rat)(c:AC):Q:=c.2+nH X c.1
theorem p0(X:List Rat):∀ l m:List (Int×Q),nH X (l++m)=nH X l+nH X m
 | [],m=>by show nH X m=0+nH X m; rw[Rat.zero_add]
 | t::r,m=>by show t.2*V8 X t.1+nH X (r++m)=t.2*V8 X t.1+nH X r+nH X m; rw[p0 X r m,Rat.add_assoc]
theorem Zd(X:List Rat)(v:Int)(q:Q):nH X (vc v q)=q*V8 X v:=by
 unfold vc
 split
 ·rename_i h; subst h; show(0:Q)=0*_; rw[Rat.zero_mul]
 ·show q*V8 X v+0=_; rw[Rat.add_zero]
theorem PM(X:List Rat)(b:Q):∀ l:List (Int×Q),nH X (ZM b l)=b*nH X l
 | []=>by show(0:Q)=b*0; rw[Rat.mul_zero]
 | t::r=>by
  show nH X (vc t.1 (t.2*b)++ZM b r)=b*(t.2*V8 X t.1+nH X r)
  rw[p0,Zd,PM X b r]; grind
theorem Ve(X:List Rat):∀ (n:Nat) (l m:List (Int×Q)),l.length+m.length≤n→nH X (ft n l m)=nH X l+nH X m
 | 0,[],[],_=>by show(0:Q)=0+0; rw[Rat.add_zero]
 | 0,_::_,_,h=>by rw[List.length_cons]at h; omega
 | 0,[],_::_,h=>by rw[List.length_cons]at h; omega
 | n+1,[],[],_=>by show(0:Q)=0+0; rw[Rat.add_zero]
 | n+1,t::r,[],h=>by
  have:=Ve X n r [] (by simp only[List.length_cons,List.length_nil]at h ⊢; omega)
  show nH X (vc t.1 t.2++ft n r [])=t.2*V8 X t.1+nH X r+nH X []
  rw[p0,Zd,this,Rat.add_assoc]
 | n+1,[],u::m,h=>by
  have:=Ve X n [] m (by simp only[List.length_cons,List.length_nil]at h ⊢; omega)
  show nH X (vc u.1 u.2++ft n [] m)=0+(u.2*V8 X u.1+nH X m)
  rw[p0,Zd,this]
  show u.2*V8 X u.1+(0+nH X m)=_
  rw[Rat.zero_add,Rat.zero_add]
 | n+1,t::r,u::m,h=>by
  simp only[List.length_cons]at h
  show nH X (if t.1<u.1 then vc t.1 t.2++ft n r (u::m)else if u.1<t.1 then vc u.1 u.2++ft n (t::r) m else vc t.1 (t.2+u.2)++ft n r m)=t.2*V8 X t.1+nH X r+(u.2*V8 X u.1+nH X m)
  split
  ·have:=Ve X n r (u::m) (by simp only[List.length_cons]; omega)
   rw[p0,Zd,this]
   show _+(_+(u.2*V8 X u.1+nH X m))=_
   rw[Rat.add_assoc]
  ·split
   ·have:=Ve X n (t::r) m (by simp only[List.length_cons]; omega)
    rw[p0,Zd,this]
    show u.2*V8 X u.1+(t.2*V8 X t.1+nH X r+nH X m)=_
    grind
   ·have e:t.1=u.1:=by omega
    have:=Ve X n r m (by omega)
    rw[p0,Zd,this,e]
    grind
theorem Q3(X:List Rat)(b:Q)(c:AC):mG X (Ym b c)=b*mG X c:=by
 show c.2*b+nH X (ZM b c.1)=b*(c.2+nH X c.1)
 rw[PM]; grind
theorem Fu(X:List Rat)(a b:AC):mG X (adC a b)=mG X a+mG X b:=by
 show a.2+b.2+nH X (ft (a.1.length+b.1.length) a.1 b.1)=a.2+nH X a.1+(b.2+nH X b.1)
 rw[Ve X _ _ _ (Nat.le_refl _)]; grind
theorem tZ(X:List Rat){c:AC}(h:c.1=[]):mG X c=c.2:=by
 unfold mG
 rw[h]
 show c.2+0=c.2
 rw[Rat.add_zero]
def opQ(k:Int)(p q:Q):Q:=if k=3 then p+q else if k=4 then p-q else if k=5 then p*q else p / q
theorem Dm(X:List Rat){k:Int}{a b:AC}(h:(dP k a b).2=0):mG X (dP k a b).1=opQ k (mG X a) (mG X b)∧((k≠3∧k≠4∧k≠5)→mG X b≠0):=by
 unfold dP opQ at *
 by_cases k3:k=3
 ·rw[if_pos k3,if_pos k3,Fu]; exact⟨rfl,fun q=>absurd k3 q.1⟩
 ·rw[if_neg k3]at h ⊢
  rw[if_neg k3]
  by_cases k4:k=4
  ·rw[if_pos k4,if_pos k4,Fu,Q3]; exact⟨by grind,fun q=>absurd k4 q.2.1⟩
  ·rw[if_neg k4]at h ⊢
   rw[if_neg k4]
   by_cases k5:k=5
   ·rw[if_pos k5]at h ⊢
    rw[if_pos k5]
    refine⟨?_,fun q=>absurd k5 q.2.2⟩
    by_cases c:a.1≠[]∧b.1≠[]
    ·rw[if_pos c]at h; cases h
    ·rw[if_neg c]
     by_cases c2:a.1≠[]
     ·have c3:b.1=[]:=Classical.not_not.1 fun q=>c ⟨c2,q⟩
      rw[if_pos c2,Q3,tZ X c3]; grind
     ·have c3:a.1=[]:=Classical.not_not.1 c2
      rw[if_neg c2,Q3,tZ X c3]
   ·rw[if_neg k5]at h ⊢
    rw[if_neg k5]
    by_cases c:b.1≠[]
    ·rw[if_pos c]at h; cases h
    ·rw[if_neg c]at h ⊢
     have c3:b.1=[]:=Classical.not_not.1 c
     by_cases z:b.2=0
     ·rw[if_pos z]at h; cases h
     ·rw[if_neg z,Q3,tZ X c3]
      refine⟨?_,fun _=>z⟩
      rw[Rat.div_def,Rat.div_def,Rat.one_mul]; grind
theorem TN(X:List Rat)(v:zB)(s:zf):mG X (eQ v s).1=if 0≤PL.vu (zM s) 0 v.1 then V8 X (PL.vu (zM s) 0 v.1)else if PL.vu (zM s) 0 v.2.1<0 then 0 else rP v.2.2.1 (PL.vu (zM s) 0 v.2.1):=by
 unfold eQ
 split
 ·show 0+(1*V8 X _+0)=_
  rw[Rat.zero_add,Rat.add_zero,Rat.one_mul]
 ·split
  ·show(0:Q)+0=0; rw[Rat.add_zero]
  ·exact tZ X rfl
def XOk(X:List Rat):Prop:=∀ x∈X,qS 100 x
theorem IH{X:List Rat}(h:XOk X)(j:Int):qX (V8 X j)≤100:=by
 unfold V8
 split
 ·rename_i c
  have hm:nth X j (zb zt)∈X:=by
   unfold nth
   rw[List.getD_eq_getElem?_getD,List.getElem?_eq_getElem (by omega)]
   exact List.getElem_mem _
  exact vn (by omega) (h _ hm)
 ·rw[fy]; omega
theorem z3T(k:Int)(p q:Q):qX (opQ k p q)≤qX p+qX q+1:=by
 unfold opQ
 split
 ·exact iu p q
 ·split
  ·exact CV p q
  ·split
   ·have:=dq p q; omega
   ·rw[Rat.div_def]
    have:=dq p q⁻¹
    have:=BT q
    omega
theorem zbq{v:zB}{k:Int}{n:Rat}{s:zf}{a:Expr}(k1:k≠1)(k2:k≠2)(h:(vS v (.mk k n s [a])).2=0):(vS v a).2=0∧(vS v (.mk k n s [a])).1=Ym (-1) (vS v a).1:=by
 rw[mv,if_neg k1,if_neg k2]at h ⊢
 have h:(if(vS v a).2≠0 then(Q5,(vS v a).2)else(Ym (-1) (vS v a).1,0)).2=0:=h
 show _∧(if(vS v a).2≠0 then(Q5,(vS v a).2)else(Ym (-1) (vS v a).1,0)).1=_
 by_cases c:(vS v a).2≠0
 ·rw[if_pos c]at h; exact absurd h c
 ·rw[if_neg c]; exact⟨Classical.not_not.1 c,rfl⟩
theorem zcC{v:zB}{k:Int}{n:Rat}{s:zf}{a b:Expr}(k1:k≠1)(k2:k≠2)(h:(vS v (.mk k n s [a,b])).2=0):(vS v a).2=0∧(vS v b).2=0∧(vS v (.mk k n s [a,b])).1=(dP k (vS v a).1 (vS v b).1).1∧(dP k (vS v a).1 (vS v b).1).2=0:=by
 rw[mv,if_neg k1,if_neg k2]at h ⊢
 have h:(if(vS v a).2≠0 then(Q5,(vS v a).2)else if(vS v b).2≠0 then(Q5,(vS v b).2)else dP k (vS v a).1 (vS v b).1).2=0:=h
 show _∧_∧(if(vS v a).2≠0 then(Q5,(vS v a).2)else if(vS v b).2≠0 then(Q5,(vS v b).2)else dP k (vS v a).1 (vS v b).1).1=_∧_
 by_cases c:(vS v a).2≠0
 ·rw[if_pos c]at h; exact absurd h c
 ·rw[if_neg c]at h ⊢
  by_cases c2:(vS v b).2≠0
  ·rw[if_pos c2]at h; exact absurd h c2
  ·rw[if_neg c2]at h ⊢
   exact⟨Classical.not_not.1 c,Classical.not_not.1 c2,rfl,h⟩
theorem Yh{v:zB}(hv:kv v){X:List Rat}(hX:XOk X):∀ (m:Nat) (e:Expr) (d:Nat),xU e≤m→vf d e=true→allOk e→(vS v e).2=0→qX (mG X (vS v e).1)≤202*xU e:=by
 intro m
 induction m with
 | zero=>intro e d hm; have:=HS e; omega
 | succ m ih =>
  intro e d hm ho ha h0
  have hp:=HS e
  cases e with | mk k n s l =>
  rcases mM ho with rfl | rfl | ⟨rfl,a,rfl,V3⟩ | ⟨hk,a,b,rfl,V3,OY⟩
  ·rw[mv,if_pos rfl,tZ X rfl]
   have:=vn (by omega) ha.1
   show qX (val n)≤_; omega
  ·rw[mv,if_neg (by decide),if_pos rfl,TN]
   have:=IH hX (PL.vu (zM s) 0 v.1)
   have:=H6 hv (PL.vu (zM s) 0 v.2.1)
   split
   ·omega
   ·split
    ·rw[fy]; omega
    ·omega
  ·obtain⟨ea,eq⟩:=zbq (by decide) (by decide) h0
   rw[sO]at hm ⊢
   rw[eq,Q3]
   have:=ih a (d+1) (by omega) V3 ha.2.1 ea
   have:=dq (-1) (mG X (vS v a).1)
   have:=bQ
   omega
  ·obtain⟨ea,eb,eq,ej⟩:=zcC (by omega) (by omega) h0
   rw[iU]at hm ⊢
   rw[eq,(Dm X ej).1]
   have:=ih a (d+1) (by omega) V3 ha.2.1 ea
   have:=ih b (d+1) (by omega) OY ha.2.2.1 eb
   have:=z3T k (mG X (vS v a).1) (mG X (vS v b).1)
   omega
theorem I3(v:zB)(sw:List Switch)(on:List Bool):∀ (rs:List uP) (k:Nat) (acc l:List (AC×Int×Int)),Um v sw on k rs acc=.ok l →
  ∃ l',l=acc++l'∧(∀ x∈l',∃ j,∃ h:j<rs.length,x=((j9 v rs[j].2.2.2.1 rs[j].2.2.2.2.1).1,(rs[j].2.1,((k+j:Nat):Int)))∧(j9 v rs[j].2.2.2.1 rs[j].2.2.2.2.1).2=0∧LL sw on rs[j].2.2.1=true) ∧
   ∀ j,∀ h:j<rs.length,LL sw on rs[j].2.2.1=true→((k+j:Nat):Int)∈uK l'
 | [],k,acc,l,h=>by
  have h:EL.ok acc=.ok l:=h
  injection h with h
  exact⟨[],by rw[List.append_nil,h],⟨fun x hx=>absurd hx List.not_mem_nil,fun j hj=>absurd hj (Nat.not_lt_zero j)⟩⟩
 | r::rs,k,acc,l,h=>by
  unfold Um at h
  by_cases c:LL sw on r.2.2.1=true
  ·rw[if_pos c]at h
   by_cases e:(j9 v r.2.2.2.1 r.2.2.2.2.1).2≠0
   ·rw[if_pos e]at h; cases h
   ·rw[if_neg e]at h
    obtain⟨l',e1,e2,e3⟩:=I3 v sw on rs (k+1) _ l h
    refine⟨((j9 v r.2.2.2.1 r.2.2.2.2.1).1,(r.2.1,(k:Int)))::l',by rw[e1,List.append_assoc]; rfl,fun x hx => ?_,fun j hj Oh => ?_⟩
    ·rcases List.mem_cons.1 hx with rfl | hx
     ·exact⟨0,Nat.zero_lt_succ _,rfl,Classical.not_not.1 e,c⟩
     ·obtain⟨j,hj,q1,q2,q3⟩:=e2 x hx
      refine⟨j+1,Nat.succ_lt_succ hj,?_,q2,q3⟩
      rw[q1,show k+1+j=k+(j+1) by omega]
      rfl
    ·cases j with
     | zero=>exact List.mem_cons_self
     | succ j =>
      have:=e3 j (Nat.lt_of_succ_lt_succ hj) Oh
      rw[show k+1+j=k+(j+1) by omega]at this
      exact List.mem_cons_of_mem _ this
  ·rw[if_neg c]at h
   obtain⟨l',e1,e2,e3⟩:=I3 v sw on rs (k+1) acc l h
   refine⟨l',e1,fun x hx => ?_,fun j hj Oh => ?_⟩
   ·obtain⟨j,hj,q1,q2,q3⟩:=e2 x hx
    refine⟨j+1,Nat.succ_lt_succ hj,?_,q2,q3⟩
    rw[q1,show k+1+j=k+(j+1) by omega]
    rfl
   ·cases j with
    | zero=>exact absurd Oh c
    | succ j =>
     have:=e3 j (Nat.lt_of_succ_lt_succ hj) Oh
     rw[show k+1+j=k+(j+1) by omega]at this
     exact this
theorem z0q{v:zB}{sw:List Switch}{on:List Bool}{rs:List uP}{l:List (AC×Int×Int)}(h:Um v sw on 0 rs []=.ok l):∀ x∈l,∃ j,∃ h:j<rs.length,x=((j9 v rs[j].2.2.2.1 rs[j].2.2.2.2.1).1,(rs[j].2.1,(j:Int)))∧(j9 v rs[j].2.2.2.1 rs[j].2.2.2.2.1).2=0:=by
 obtain⟨l',e1,e2,e3⟩:=I3 v sw on rs 0 [] l h
 rw[List.nil_append]at e1
 subst e1
 intro x hx
 obtain⟨j,hj,q1,q2,-⟩:=e2 x hx
 rw[Nat.zero_add]at q1
 exact⟨j,hj,q1,q2⟩
theorem Sj(f:Form)(on:List Bool)(v:zB)(hv:kv v)(hl:f.1.length≤1000000000)(ho:on.length=f.1.length)(hr:∀ r∈f.2.2.2.2.1,z6e r)(hrl:f.2.2.2.2.1.length≤1000000) :
  ∀ (m k:Nat) (acc:List (AC×Int×Int)),k+m=f.2.2.2.2.1.length→acc.length≤k →
   match Um v f.1 on k (f.2.2.2.2.1.drop k) acc with
   | .ok l=>(yc on f ((k:Int),(v,(uG acc,uK acc)))).run=some (.inl (v,(uG l,uK l)))
   | .er nm e=>∃ z,(yc on f ((k:Int),(v,(uG acc,uK acc)))).run=some (.inr (nm,(e,z))):=by
 intro m
 induction m with
 | zero =>
  intro k acc hk ha
  have:k=f.2.2.2.2.1.length:=by omega
  subst this
  rw[List.drop_length]
  show(yc on f _).run=_
  refine ql ?_
  unfold ug
  dsimp only
  rw[z8 (xo _),ze _ rfl rfl rfl,ze _ rfl rfl rfl,zy _ rfl,zy _ rfl,z7]
 | succ m ih =>
  intro k acc hk ha
  have h1:k<f.2.2.2.2.1.length:=by omega
  have Gj:=hr _ (List.getElem_mem h1)
  have Oh:=z7v f on f.2.2.2.2.1[k].2.2.1 hl ho
  have hsd:=B3 hv f.2.2.2.2.1[k] Gj.a1 Gj.a2 Gj.n1 Gj.n2 Gj.b1 Gj.b2
  have cl:=sI acc
  have rl:=sE acc
  rw[List.drop_eq_getElem_cons h1]
  unfold Um
  by_cases c:LL f.1 on f.2.2.2.2.1[k].2.2.1=true
  ·rw[if_pos c]
   by_cases e:(j9 v f.2.2.2.2.1[k].2.2.2.1 f.2.2.2.2.1[k].2.2.2.2.1).2≠0
   ·rw[if_pos e]
    refine⟨(v,(uG acc,uK acc)),?_⟩
    refine ql ?_
    unfold ug
    dsimp only
    rw[za (qQ h1),zc (zo h1),xh h1,z6 Oh,z8 (by rw[c]; rfl),zc (zo h1),z6 hsd]
    generalize j9 v f.2.2.2.2.1[k].2.2.2.1 f.2.2.2.2.1[k].2.2.2.2.1=S at e ⊢
    obtain⟨S1,S2⟩:=S
    rw[ng e]
    dsimp only at e ⊢
    rw[za (by simpa using e),zc (zo h1),zy _ rfl,zy _ rfl,z7]
   ·rw[if_neg e]
    have Hq:=ih (k+1) (acc++[((j9 v f.2.2.2.2.1[k].2.2.2.1 f.2.2.2.2.1[k].2.2.2.2.1).1,(f.2.2.2.2.1[k].2.1,(k:Int)))]) (by omega) (by rw[List.length_append,List.length_singleton]; omega)
    have st:(ug on f ((k:Int),(v,(uG acc,uK acc)))).run=some (.inl (((k+1:Nat):Int),(v,(uG (acc++[((j9 v f.2.2.2.2.1[k].2.2.2.1 f.2.2.2.2.1[k].2.2.2.2.1).1,(f.2.2.2.2.1[k].2.1,(k:Int)))]),uK (acc++[((j9 v f.2.2.2.2.1[k].2.2.2.1 f.2.2.2.2.1[k].2.2.2.2.1).1,(f.2.2.2.2.1[k].2.1,(k:Int)))]))))):=by
     rw[Hc,Gc]
     unfold ug
     dsimp only
     rw[za (qQ h1),zc (zo h1),xh h1,z6 Oh,z8 (by rw[c]; rfl),zc (zo h1),z6 hsd]
     generalize j9 v f.2.2.2.2.1[k].2.2.2.1 f.2.2.2.2.1[k].2.2.2.2.1=S at e ⊢
     obtain⟨S1,S2⟩:=S
     have:S2=0:=by simpa using e
     subst this
     rw[Ja]
     dsimp only
     rw[z8 (by rfl),xi _ rfl rfl rfl (by omega),xi _ rfl rfl rfl (by omega),ze _ (by simp) rfl (by simp),ze _ (by simp) rfl (by simp),zy _ (by simp),zy _ (by simp),z7,vA k _ h1 (by omega)]
    cases w:Um v f.1 on (k+1) (f.2.2.2.2.1.drop (k+1)) (acc++[((j9 v f.2.2.2.2.1[k].2.2.2.1 f.2.2.2.2.1[k].2.2.2.2.1).1,(f.2.2.2.2.1[k].2.1,(k:Int)))])with
    | ok l=>rw[w]at Hq; exact(qK st).trans Hq
    | er nm x=>rw[w]at Hq; obtain⟨z,g2⟩:=Hq; exact⟨z,(qK st).trans g2⟩
  ·rw[if_neg c]
   have Hq:=ih (k+1) acc (by omega) (by omega)
   have st:(ug on f ((k:Int),(v,(uG acc,uK acc)))).run=some (.inl (((k+1:Nat):Int),(v,(uG acc,uK acc)))):=by
    unfold ug
    dsimp only
    rw[za (qQ h1),zc (zo h1),xh h1,z6 Oh,za (by rw[show LL f.1 on f.2.2.2.2.1[k].2.2.1=false by simpa using c]; rfl),ze _ rfl rfl rfl,ze _ rfl rfl rfl,zy _ rfl,zy _ rfl,z7,vA k _ h1 (by omega)]
   cases w:Um v f.1 on (k+1) (f.2.2.2.2.1.drop (k+1)) acc with
   | ok l=>rw[w]at Hq; exact(qK st).trans Hq
   | er nm x=>rw[w]at Hq; obtain⟨z,g2⟩:=Hq; exact⟨z,(qK st).trans g2⟩
def Ws(rs:List uP):List (AC×Int×Int)→Option zf
 | []=>none
 | x::r=>if Us x.1=true then some (nth rs x.2.2 (zb zl)).1 else Ws rs r
structure LOk(rs:List uP)(l:List (AC×Int×Int)):Prop where
 len:l.length≤1000000
 sz:∀ x∈l,Vt 1000000 x.1∧x.1.1.length≤1000000∧0≤x.2.2∧x.2.2<(rs.length:Int)
theorem rZ(l:List (AC×Int×Int)){k:Nat}(h:k<l.length):xp (uG l) (0+Int.toNat (k:Int)) (zb q7)=qZ l[k].2.1 l[k].1:=by
 unfold xp uG
 rw[Nat.zero_add,Int.toNat_natCast,List.getD_eq_getElem?_getD,List.getElem?_map,List.getElem?_eq_getElem h]
 rfl
theorem JU(l:List (AC×Int×Int)){k:Nat}(h:k<l.length):xp (uK l) (0+Int.toNat (k:Int)) (zb (.int .i64))=l[k].2.2:=by
 unfold xp uK
 rw[Nat.zero_add,Int.toNat_natCast,List.getD_eq_getElem?_getD,List.getElem?_map,List.getElem?_eq_getElem h]
 rfl
theorem z3Q(l:List (AC×Int×Int)){k:Nat}(h:k<l.length):nth (uG l) (k:Int) (zb q7)=qZ l[k].2.1 l[k].1:=by
 have:=rZ l h
 unfold xp at this
 unfold nth
 rwa [Nat.zero_add]at this
theorem z3H(l:List (AC×Int×Int)){k:Nat}(h:k<l.length):nth (uK l) (k:Int) (zb (.int .i64))=l[k].2.2:=by
 have:=JU l h
 unfold xp at this
 unfold nth
 rwa [Nat.zero_add]at this
theorem SH(f:Form)(a0:qU)(v:zB)(l:List (AC×Int×Int))(hl:LOk f.2.2.2.2.1 l):∀ (m k:Nat),k+m=l.length →
  (pF f ((uG l).length:Int) ((k:Int),(a0,((),(v,(uG l,uK l)))))).run=some (match Ws f.2.2.2.2.1 (l.drop k)with
   | none=>.inl (a0,((),(v,(uG l,uK l))))
   | some nm=>.inr (nm,((8:Int),((([]:List wF),(([]:List Int),())),((),(v,(uG l,uK l))))))):=by
 have cl:=sI l
 have rl:=sE l
 intro m
 induction m with
 | zero =>
  intro k hk
  have:k=l.length:=by omega
  subst this
  rw[List.drop_length]
  refine ql ?_
  unfold bh
  dsimp only
  rw[z8 (by rw[cl]; exact xo _),ze _ rfl rfl rfl,ze _ rfl rfl rfl,zy _ rfl,zy _ rfl,z7]
  rfl
 | succ m ih =>
  intro k hk
  have h1:k<l.length:=by omega
  obtain⟨s1,s2,s3,s4⟩:=hl.sz _ (List.getElem_mem h1)
  have hL:=Fg l[k].2.1 l[k].1 s1 s2
  have hlen:=hl.len
  rw[List.drop_eq_getElem_cons h1]
  unfold Ws
  by_cases c:Us l[k].1=true
  ·rw[if_pos c]
   refine ql ?_
   unfold bh
   dsimp only
   rw[za (by rw[cl]; exact qQ h1),zc (zo (by omega)),zc (oU.2 ⟨rfl,by rw[Nat.zero_add,Int.toNat_natCast]; omega⟩),rZ l h1,z6 hL,za c,zc (zo (by omega)),zc (oU.2 ⟨rfl,by rw[Nat.zero_add,Int.toNat_natCast]; omega⟩),JU l h1,zc ⟨s3,s4⟩,ze _ rfl rfl rfl,ze _ rfl rfl rfl,zy _ rfl,zy _ rfl,z7]
  ·rw[if_neg c]
   refine(qK (s':=(((k+1:Nat):Int),(a0,((),(v,(uG l,uK l)))))) ?_).trans (ih (k+1) (by omega))
   unfold bh
   dsimp only
   rw[za (by rw[cl]; exact qQ h1),zc (zo (by omega)),zc (oU.2 ⟨rfl,by rw[Nat.zero_add,Int.toNat_natCast]; omega⟩),rZ l h1,z6 hL,z8 (by simpa using c),ze _ rfl rfl rfl,ze _ rfl rfl rfl,ze _ rfl rfl rfl,zy _ rfl,zy _ rfl,z7,vA k _ h1 (by omega)]
theorem OG(f:Form)(v:zB)(l:List (AC×Int×Int))(hl:LOk f.2.2.2.2.1 l):∀ (m k:Nat),k+m=l.length →
  (oj f ((k:Int),(v,(uG l,uK l)))).run=some (match Ws f.2.2.2.2.1 (l.drop k)with
   | none=>.inl (v,(uG l,uK l))
   | some nm=>.inr (nm,((8:Int),(v,(uG l,uK l))))):=by
 have cl:=sI l
 have rl:=sE l
 intro m
 induction m with
 | zero =>
  intro k hk
  have:k=l.length:=by omega
  subst this
  rw[List.drop_length]
  refine ql ?_
  unfold bM
  dsimp only
  rw[z8 (by rw[cl]; exact xo _),ze _ rfl rfl rfl,ze _ rfl rfl rfl,zy _ rfl,zy _ rfl,z7]
  rfl
 | succ m ih =>
  intro k hk
  have h1:k<l.length:=by omega
  obtain⟨s1,s2,s3,s4⟩:=hl.sz _ (List.getElem_mem h1)
  have hL:=Kd l[k].2.1 l[k].1 s1 s2
  have hlen:=hl.len
  rw[List.drop_eq_getElem_cons h1]
  unfold Ws
  by_cases c:Us l[k].1=true
  ·rw[if_pos c]
   refine ql ?_
   unfold bM
   dsimp only
   rw[za (by rw[cl]; exact qQ h1),zc (zo (by omega)),zc (oU.2 ⟨rfl,by rw[Nat.zero_add,Int.toNat_natCast]; omega⟩),rZ l h1,z6 hL,za c,zc (zo (by omega)),zc (oU.2 ⟨rfl,by rw[Nat.zero_add,Int.toNat_natCast]; omega⟩),JU l h1,zc ⟨s3,s4⟩,zy _ rfl,zy _ rfl,z7]
  ·rw[if_neg c]
   refine(qK (s':=(((k+1:Nat):Int),(v,(uG l,uK l)))) ?_).trans (ih (k+1) (by omega))
   unfold bM
   dsimp only
   rw[za (by rw[cl]; exact qQ h1),zc (zo (by omega)),zc (oU.2 ⟨rfl,by rw[Nat.zero_add,Int.toNat_natCast]; omega⟩),rZ l h1,z6 hL,z8 (by simpa using c),ze _ rfl rfl rfl,ze _ rfl rfl rfl,zy _ rfl,zy _ rfl,z7,vA k _ h1 (by omega)]
def vF(f:Form)(ps:List Rat):zB:=(f.2.2.2.1.map (·.1),(f.2.1.map (·.1),(ps,())))
theorem DW(f:Form)(ps:List Rat)(h:FS f)(Eh:ps.length≤1000000000):(ss f ps).run=some (vF f ps):=by
 have hn:=h.n
 have key:=T.nq (r:=da f) f.2.1 (zb q8) (fun(b:List zf) i=>(i,(([]:List Rat),()),ps,(f.2.2.2.1.map (·.1),()),[],[],b)) (fun k b=>b.length=k) (fun b x=>b++[x.1])
  (fun b=>((([]:List Rat),()),ps,(f.2.2.2.1.map (·.1),()),[],[],b)) (fun k b x hk hx hm hI => ?_) (fun b hI => ?_) (b:=[]) rfl
 ·obtain⟨k1,k2⟩:=key
  rw[Qn,List.nil_append]at k1 k2
  have k1:(VV f ((0:Int),((([]:List Rat),()),(ps,((f.2.2.2.1.map (·.1),()),(([]:List zf),(([]:List zf),([]:List zf)))))))).run=some ((([]:List Rat),()),ps,(f.2.2.2.1.map (·.1),()),[],[],f.2.1.map (·.1)):=k1
  unfold ss
  rw[z6 (ot f h),xi _ rfl rfl rfl (by omega),ze _ rfl rfl rfl,ze _ rfl rfl rfl,zc (by omega),ze _ rfl rfl rfl,ze _ (by omega) rfl (by omega),T.zk,T.zk,T.zk,z6 k1,T.zk,T.zk,z7,Nat.zero_add,List.take_length,List.drop_zero,Nat.zero_add,List.take_length,List.drop_zero]
  rfl
 ·refine⟨?_,by simp; omega⟩
  unfold da
  dsimp only
  rw[za (qQ hk),zc (zo hk),hx,xi _ rfl rfl rfl (by omega),ze _ rfl rfl rfl,ze _ rfl rfl rfl,T.zk,ze _ (by simp) rfl (by simp),ze _ rfl rfl rfl,T.zk,T.zk,zc (by simp),z7,vA k _ hk (by omega)]
 ·unfold da
  dsimp only
  rw[z8 (xo _)]
  rw[ze _ rfl rfl rfl,ze _ rfl rfl rfl,T.zk,ze _ rfl rfl rfl,ze _ rfl rfl rfl,T.zk,T.zk,T.zk,z7]
theorem Eo(l:List Rat)(g:Rat→T Bool)(p:Rat→Bool)(hg:∀ x∈l,(g x).run=some (p x))(hl:l.length≤1000000000):(xn l g).run=some (l.any p):=by
 have key:(kK l g (l.length:Int) 0).run=some (if PL.vu p 0 l = -1 then .inl ()else .inr (PL.vu p 0 l)):=by
  refine PL.gv l (zb zt) p (fun i h hi hp => ?_) (fun i h hi hp => ?_) (fun i hi => ?_)
  ·have hm:=vp (d:=zb zt) h hi
   simp(disch:=omega) [xO,hi,hg _ hm,hp]
  ·have hm:=vp (d:=zb zt) h hi
   simp(disch:=omega) [xO,hi,hg _ hm,hp]
  ·simp[xO,hi]
 have hx:(vd l g).run=some (PL.vu p 0 l):=by
  unfold vd
  rw[z6 key]
  split<;>rename_i h<;>simp[h]
 unfold xn
 rw[z6 hx,z7,PL.eV _ _ _ (Int.le_refl 0)]
def QN(a:Rat):Bool := !(eG a && !wX a)
theorem z6U(a:Rat)(h:qS 100 a):(wS a).run=some (QN a):=by
 unfold wS QN
 rw[z6 (oI a (xM h (by omega)))]
 cases eG a with
 | false=>rw[za (by rfl),z7]; rfl
 | true=>rw[z8 (by rfl),z6 (yN a (xM h (by omega))),z7]; cases wX a<;>rfl
theorem Fl(ps:List Rat)(h:∀ x∈ps,qS 100 x)(hl:ps.length≤1000000000)(on:List Bool)(f:Form):(o6 ps on f (0:Int)).run=some (if ps.any QN=true then .inr (([]:zf),(1:Int))else .inl ()):=by
 have key:∀ (m k:Nat),k+m=ps.length→(o6 ps on f (k:Int)).run=some (if(ps.drop k).any QN=true then .inr (([]:zf),(1:Int))else .inl ()):=by
  intro m
  induction m with
  | zero =>
   intro k hk
   have:k=ps.length:=by omega
   subst this
   rw[List.drop_length]
   refine ql ?_
   unfold b9
   rw[z8 (xo _),z7]
   rfl
  | succ m ih =>
   intro k hk
   have h1:k<ps.length:=by omega
   have hG:=mo _ (xM (h _ (List.getElem_mem h1)) (by omega))
   rw[List.drop_eq_getElem_cons h1,List.any_cons]
   cases q:QN ps[k]with
   | true =>
    rw[Bool.true_or,if_pos rfl]
    refine ql ?_
    unfold b9
    rw[za (qQ h1),zc (zo h1),xh h1,z6 hG,za (show(!(eG ps[k] && !wX ps[k]))=true from q),z7]
   | false =>
    rw[Bool.false_or]
    refine(qK (s':=((k+1:Nat):Int)) ?_).trans (ih (k+1) (by omega))
    unfold b9
    rw[za (qQ h1),zc (zo h1),xh h1,z6 hG,z8 (show(!(eG ps[k] && !wX ps[k]))=false from q),z7,vA k _ h1 (by omega)]
 have:=key ps.length 0 (by omega)
 rwa [List.drop_zero]at this
def PW(f:Form)(ps:List Rat)(on:List Bool):EL :=
 if(BU f).1≠0 then .er (BU f).2 (BU f).1
 else if ps.length≠f.2.1.length∨on.length≠f.1.length then .er [] 1
 else if ps.any QN=true then .er [] 1
 else match Um (vF f ps) f.1 on 0 f.2.2.2.2.1 []with
  | .er n e=>.er n e
  | .ok l=>match Ws f.2.2.2.2.1 l with
   | some n=>.er n 8
   | none=>.ok l
def Sr:EL→qU×zf×Int
 | .er n e=>((([]:List wF),(([]:List Int),())),(n,e))
 | .ok l=>((uG l,(uK l,())),(([]:zf),(0:Int)))
def z4T:EL→List wF×List Int×zf×Int
 | .er n e=>(([]:List wF),(([]:List Int),(n,e)))
 | .ok l=>(uG l,(uK l,(([]:zf),(0:Int))))
theorem Pw{f:Form}(h:FS f){ps:List Rat}(hp:ps.length=f.2.1.length)(ho:∀ x∈ps,qS 100 x):kv (vF f ps):=by
 have hn:=h.n
 exact⟨by show(f.2.2.2.1.map (·.1)).length≤_; rw[List.length_map]; omega,by show(f.2.1.map (·.1)).length≤_; rw[List.length_map]; omega,by show ps.length≤_; omega,ho⟩
theorem Wu{f:Form}(h:FS f):∀ r∈f.2.2.2.2.1,z6e r:=fun r hr=>by
 obtain⟨-,-,ha,hb⟩:=h.r r hr
 have:=US ha
 have:=US hb
 have:=jN ha
 have:=jN hb
 exact⟨ha.2,hb.2,by omega,by omega,by omega,by omega⟩
theorem B6{f:Form}(h:FS f){v:zB}(hv:kv v){on:List Bool}{l:List (AC×Int×Int)}(e:Um v f.1 on 0 f.2.2.2.2.1 []=.ok l):LOk f.2.2.2.2.1 l:=by
 have hn:=h.n
 refine⟨?_,fun x hx => ?_⟩
 ·have:∀ (rs:List uP) (k:Nat) (acc l:List (AC×Int×Int)),Um v f.1 on k rs acc=.ok l→l.length≤acc.length+rs.length:=by
   intro rs
   induction rs with
   | nil=>intro k acc l e; injection (show EL.ok acc=.ok l from e)with e; subst e; exact Nat.le_add_right _ _
   | cons r rs ih =>
    intro k acc l e
    unfold Um at e
    rw[List.length_cons]
    split at e
    ·split at e
     ·cases e
     ·have:=ih _ _ _ e; rw[List.length_append,List.length_singleton]at this; omega
    ·have:=ih _ _ _ e; omega
  have:=this _ _ _ _ e
  simp only[List.length_nil]at this
  omega
 ·obtain⟨j,hj,q,-⟩:=z0q e x hx
  have hr:=Wu h _ (List.getElem_mem hj)
  have hs:=LB hv f.2.2.2.2.1[j].2.2.2.1 f.2.2.2.2.1[j].2.2.2.2.1 hr.a1 hr.a2
  rw[q]
  exact⟨vU hs.sz (by omega),Nat.le_trans hs.len (by omega),by show(0:Int)≤(j:Int); omega,by show(j:Int)<_; omega⟩
theorem zax{f:Form}(h:(BU f).1=0):∀ s∈f.1,s.1≠[]:=fun s hs e=>by
 obtain⟨hI,-⟩:=z82 h
 have:=Ql hI s.1 (by unfold Zh; simp only[List.mem_append]; exact .inl (.inl (.inl (.inl (.inl (List.mem_map.2 ⟨s,hs,rfl⟩))))))
 rw[e]at this
 cases this
theorem E5(f:Form)(h:FS f)(ps:List Rat)(on:List Bool)(Eh:∀ x∈ps,qS 100 x):(fx f ps on).run=some (Sr (PW f ps on)):=by
 have hn:=h.n
 unfold fx PW
 rw[z6 (I8 f h)]
 have hsn := @zax f
 generalize BU f=S at *
 obtain⟨e,nm⟩:=S
 dsimp only at hsn ⊢
 by_cases c:e≠0
 ·rw[if_pos c,za (by simpa using c),z7]; rfl
 ·have c0:e=0:=by simpa using c
  subst c0
  rw[if_neg c,z8 (by rfl)]
  by_cases c1:ps.length≠f.2.1.length∨on.length≠f.1.length
  ·rw[if_pos c1]
   have mid:(T.ite ((Nat.cast (List.length ps):Int) != (Nat.cast (List.length f.2.1):Int))
      (.ret (true,(([]:List wF),(([]:List Int),()))))
      (.ite ((Nat.cast (List.length on):Int) != (Nat.cast (List.length f.1):Int))
        (.ret (true,(([]:List wF),(([]:List Int),()))))
        (T.bind (xn ps (fun z0=>wS z0)) fun r =>
         .ret (r,(([]:List wF),(([]:List Int),()))))):T ((Bool×qU))).run=some (true,(([]:List wF),(([]:List Int),()))):=by
    by_cases c2:ps.length≠f.2.1.length
    ·rw[za (by rw[bne_iff_ne]; omega),z7]
    ·rw[z8 (by rw[bne_eq_false_iff_eq]; omega),za (by rw[bne_iff_ne]; omega),z7]
   rw[z6 mid]
   dsimp only
   rw[zD,z7]; rfl
  ·have c2:ps.length=f.2.1.length:=by omega
   have c3:on.length=f.1.length:=by omega
   rw[if_neg c1]
   have mid:(T.ite ((Nat.cast (List.length ps):Int) != (Nat.cast (List.length f.2.1):Int))
      (.ret (true,(([]:List wF),(([]:List Int),()))))
      (.ite ((Nat.cast (List.length on):Int) != (Nat.cast (List.length f.1):Int))
        (.ret (true,(([]:List wF),(([]:List Int),()))))
        (T.bind (xn ps (fun z0=>wS z0)) fun r =>
         .ret (r,(([]:List wF),(([]:List Int),()))))):T ((Bool×qU))).run=some (ps.any QN,(([]:List wF),(([]:List Int),()))):=by
    rw[z8 (by rw[bne_eq_false_iff_eq]; omega),z8 (by rw[bne_eq_false_iff_eq]; omega),z6 (Eo ps (fun z0=>wS z0) QN (fun x hx=>z6U x (Eh x hx)) (by omega)),z7]
   rw[z6 mid]
   dsimp only
   cases q:ps.any QN with
   | true=>rw[if_pos rfl,zD,z7]; rfl
   | false =>
    rw[if_neg (by decide),zr]
    have hv:=Pw h c2 Eh
    have k0:=PI f on (vF f ps) hv (by omega) c3 (hsn rfl) (Wu h) (by omega) (([]:List wF),(([]:List Int),())) f.2.2.2.2.1.length 0 [] (by omega) (Nat.le_refl _)
    have hr:(tp f ps).run=some (vF f ps):=z1i f ps (by omega) (by omega) (by omega)
    rw[z6 hr,ze _ rfl rfl rfl,ze _ rfl rfl rfl,T.zk,T.zk]
    rw[List.drop_zero]at k0
    have hlk := @B6 f h (vF f ps) hv on
    cases w:Um (vF f ps) f.1 on 0 f.2.2.2.2.1 []with
    | er n x =>
     rw[w]at k0
     obtain⟨-,z,k0⟩:=k0
     have k0:(yg on f f.2.2.2.2.1 (f.2.2.2.2.1.length:Int) ((0:Int),((([]:List wF),(([]:List Int),())),((),(vF f ps,(([]:List wF),([]:List Int))))))).run=_:=k0
     rw[z6 k0]
     rfl
    | ok l =>
     rw[w]at k0
     have hlk:=hlk w
     have k0:(yg on f f.2.2.2.2.1 (f.2.2.2.2.1.length:Int) ((0:Int),((([]:List wF),(([]:List Int),())),((),(vF f ps,(([]:List wF),([]:List Int))))))).run=_:=k0
     have k1:=SH f (([]:List wF),(([]:List Int),())) (vF f ps) l hlk l.length 0 (by omega)
     rw[List.drop_zero]at k1
     have k1:(pF f ((uG l).length:Int) ((0:Int),((([]:List wF),(([]:List Int),())),((),(vF f ps,(uG l,uK l)))))).run=_:=k1
     rw[z6 k0,Sum.elim_inl]
     dsimp only
     rw[ze _ rfl rfl rfl,ze _ rfl rfl rfl,ze _ rfl rfl rfl,T.zk,T.zk,z6 k1]
     cases Ws f.2.2.2.2.1 l with
     | some n=>rfl
     | none =>
      dsimp only
      rw[Sum.elim_inl]
      dsimp only
      rw[T.zk,T.zk,z7,dt,dt]
      rfl
theorem Od(f:Form)(h:FS f)(ps:List Rat)(on:List Bool)(Eh:∀ x∈ps,qS 100 x):(Z6 f ps on).run=some (z4T (PW f ps on)):=by
 have hn:=h.n
 unfold Z6 PW
 rw[z6 (UE f h)]
 generalize BU f=S at *
 obtain⟨e,nm⟩:=S
 dsimp only
 by_cases c:e≠0
 ·rw[if_pos c,za (by simpa using c),z7]; rfl
 ·have c0:e=0:=by simpa using c
  subst c0
  rw[if_neg c,z8 (by rfl)]
  by_cases c1:ps.length≠f.2.1.length∨on.length≠f.1.length
  ·rw[if_pos c1,za (by rw[Bool.or_eq_true,bne_iff_ne,bne_iff_ne]; omega),z7]; rfl
  ·have c2:ps.length=f.2.1.length:=by omega
   have c3:on.length=f.1.length:=by omega
   rw[if_neg c1,z8 (by rw[Bool.or_eq_false_iff,bne_eq_false_iff_eq,bne_eq_false_iff_eq]; omega),z6 (Fl ps Eh (by omega) on f)]
   cases q:ps.any QN with
   | true=>rw[if_pos rfl,if_pos rfl]; rfl
   | false =>
    rw[if_neg (by decide),if_neg (by decide),Sum.elim_inl]
    have hv:=Pw h c2 Eh
    have k0:=Sj f on (vF f ps) hv (by omega) c3 (Wu h) (by omega) f.2.2.2.2.1.length 0 [] (by omega) (Nat.le_refl _)
    rw[z6 (DW f ps h (by omega)),ze _ rfl rfl rfl,ze _ rfl rfl rfl,T.zk,T.zk]
    rw[List.drop_zero]at k0
    have hlk := @B6 f h (vF f ps) hv on
    cases w:Um (vF f ps) f.1 on 0 f.2.2.2.2.1 []with
    | er n x =>
     rw[w]at k0
     obtain⟨z,k0⟩:=k0
     have k0:(yc on f ((0:Int),(vF f ps,(([]:List wF),([]:List Int))))).run=_:=k0
     rw[z6 k0]
     rfl
    | ok l =>
     rw[w]at k0
     have hlk:=hlk w
     have k0:(yc on f ((0:Int),(vF f ps,(([]:List wF),([]:List Int))))).run=_:=k0
     have k1:=OG f (vF f ps) l hlk l.length 0 (by omega)
     rw[List.drop_zero]at k1
     have k1:(oj f ((0:Int),(vF f ps,(uG l,uK l)))).run=_:=k1
     rw[z6 k0,Sum.elim_inl]
     dsimp only
     rw[ze _ rfl rfl rfl,ze _ rfl rfl rfl,T.zk,T.zk,z6 k1]
     cases Ws f.2.2.2.2.1 l with
     | some n=>rfl
     | none =>
      dsimp only
      rw[Sum.elim_inl]
      dsimp only
      rw[T.zk,T.zk,z7,dt,dt]
      rfl
def WV(e:Expr):Prop:=allOk e∧bkE e≤300*xU e
theorem tO:Vl eT:=⟨yj,yj,by show(0:Nat)≤100; omega,by show(0:Nat)≤100; omega⟩
theorem V7(k:Int)(n:Rat)(s:zf)(hn:Vl n)(hs:s.length≤24):WV (.mk k n s []):=by
 refine⟨⟨hn,trivial⟩,?_⟩
 have h3:=hn.2.2.1
 have h4:=hn.2.2.2
 show 1+((1+((List.length n.2.1+1)+((List.length n.2.2.1+1)+1)))+((List.length s+1)+((0+1)+1)))≤300*(1+0)
 omega
theorem FG(k:Int){a b:Expr}(h:WV a)(h2:WV b):WV (z4p k [a,b]):=by
 refine⟨⟨tO,h.1,h2.1,trivial⟩,?_⟩
 show 1+((1+((0+1)+((0+1)+1)))+((0+1)+(((bkE a+(bkE b+0))+1)+1)))≤300*(1+(xU a+(xU b+0)))
 have:=h.2
 have:=h2.2
 omega
theorem IW:zJ 2=[2]:=by rw[yb (by omega),show 2 / 4294967296=0 from rfl,qz]; rfl
theorem Rx:To [50]=(false,[2],[1],()):=by
 have e:z35 [50]=some (2,1):=by decide +kernel
 unfold To
 rw[e]
 show kZ _ 2 1=_
 unfold kZ
 rw[if_neg (by decide),show 2 / Nat.gcd 2 1=2 from rfl,show 1 / Nat.gcd 2 1=1 from rfl,IW,Uf]
 rfl
def KP(s:zf):Expr:=.mk 2 eT s []
theorem Po:norm (false,[2],[1],())=(false,[2],[1],()):=by
 rw[← Rx]
 have e:z35 [50]=some (2,1):=by decide +kernel
 have:To [50]=kZ (List.isPrefixOf [45] [50]) 2 1:=by
  unfold To
  rw[e]
  rfl
 rw[this]
 exact OO _ _ _
theorem z1L:cE (To [50])=true:=by
 rw[Rx]
 unfold cE eG wX gJ
 rw[Po]
 show(((zJ 2==[2])&&((zJ 1==[1])&&_))&&_)=true
 rw[IW,Uf]
 rfl
theorem NC{n:Rat}(h:cE n=true):eG n=true∧n.1=false∧wX n=false∧(xS (norm n).1 (nv (norm n).2.1) (nv (norm n).2.2.1) 0 61).2=true:=by
 unfold cE at h
 simp only[Bool.and_eq_true,Bool.not_eq_true']at h
 exact⟨h.1,h.2.1,h.2.2.1,h.2.2.2⟩
theorem lJ(e:Expr)(left:Int)(h0 : -100000000000≤left)(h1:left≤600)(hb:bkE e≤1000000000):(kQ e left).run=some (wtE e left):=by
 unfold kQ
 refine jG (fun x:Expr×Int => -100000000000≤x.2∧x.2≤600∧bkE x.1≤1000000000) (fun x=>bkE x.1) (fun x=>wtE x.1 x.2) (fun x hx g hg => ?_) (x:=(e,left)) ⟨h0,h1,hb⟩
 obtain⟨e,left⟩:=x
 obtain⟨h0,h1,hx⟩:=hx
 simp only at hx hg h0 h1
 have hk:=gN e
 have FK:=iR e.kids
 have loop:∀ acc:Int,-1000000000000≤acc→acc≤600→(sL (fun y0 y1=>g (y0,y1)) e (acc,0)).run=some (wtEs e.kids acc):=by
  intro acc a1 a2
  refine ny e.kids (zb .expr) (fun b i=>(b,i)) (fun b r=>b≤600∧∀ x∈r,x∈e.kids) (fun r b=>wtEs r b) ?_ ?_ ⟨a2,fun x hx=>hx⟩
  ·rintro b x xs i hi0 hi hx ⟨b1,b2⟩
   by_cases HI:0≤b
   ·have hm:=gV (b2 x List.mem_cons_self)
    have hr:=hg (x,b) ⟨by simp only; omega,b1,by simp only; omega⟩ (by simp only; omega)
    simp only at hr
    have:=(V4 x b).1
    refine .inl ⟨wtE x b,?_,⟨by omega,fun y hy=>b2 y (List.mem_cons_of_mem _ hy)⟩,?_⟩
    ·simp(disch:=omega) [ke,hi,hx,HI,hr]
    ·simp[wtEs,HI]
   ·right
    have hw:wtEs (x::xs) b=b:=RU _ _ HI
    simp[ke,hi,HI,hw]
  ·rintro b _
   simp[ke,wtEs]
 unfold cO
 cases e with | mk k n s kids =>
 simp only[Expr.kids,Expr.name,Expr.num,bkE]at *
 have hL:=loop (left-3-s.length-8*n.2.1.length-8*n.2.2.1.length) (by omega) (by omega)
 rw[zQ (x:=left-3) (by omega) (by omega),zQ (x:=left-3-s.length) (by omega) (by omega),zQ (x:=8*(n.2.1.length:Int)) (by omega) (by omega),zQ (x:=left-3-s.length-8*n.2.1.length) (by omega) (by omega),
  zQ (x:=8*(n.2.2.1.length:Int)) (by omega) (by omega),zQ (by omega) (by omega),z6 hL,z7]
 rfl
theorem DN(f:Form)(h:FB f):∃ b,(cH f).run=some b∧(b=false→FL f∧∀ x∈f.2.2.2.2.1,szE x.2.2.2.1+szE x.2.2.2.2.1≤600):=by
 obtain⟨TG,iI,hl3,hl4,hl5,hl6,hs,hp,hg,hd,hr,hc⟩:=h
 unfold cH
 have e0:zu ((600:Int)-(zu ((20:Int)*(zu ((zu ((zu ((zu ((zu ((f.1.length:Int)+(f.2.1.length:Int)))+(f.2.2.1.length:Int)))+(f.2.2.2.1.length:Int)))+(f.2.2.2.2.1.length:Int)))+(f.2.2.2.2.2.1.length:Int)))))) =
   600-20*((f.1.length+f.2.1.length+f.2.2.1.length+f.2.2.2.1.length+f.2.2.2.2.1.length+f.2.2.2.2.2.1.length:Nat):Int):=by
  rw[zQ (x:=(f.1.length:Int)+(f.2.1.length:Int)) (by omega) (by omega),zQ (x:=(f.1.length:Int)+(f.2.1.length:Int)+(f.2.2.1.length:Int)) (by omega) (by omega),zQ (x:=(f.1.length:Int)+(f.2.1.length:Int)+(f.2.2.1.length:Int)+(f.2.2.2.1.length:Int)) (by omega) (by omega),
   zQ (x:=(f.1.length:Int)+(f.2.1.length:Int)+(f.2.2.1.length:Int)+(f.2.2.2.1.length:Int)+(f.2.2.2.2.1.length:Int)) (by omega) (by omega),zQ (x:=(f.1.length:Int)+(f.2.1.length:Int)+(f.2.2.1.length:Int)+(f.2.2.2.1.length:Int)+(f.2.2.2.2.1.length:Int)+(f.2.2.2.2.2.1.length:Int)) (by omega) (by omega),
   zQ (x:=20*_) (by omega) (by omega),zQ (by omega) (by omega)]
  omega
 rw[e0]
 obtain⟨N,hN⟩:∃ N,f.1.length+f.2.1.length+f.2.2.1.length+f.2.2.2.1.length+f.2.2.2.2.1.length+f.2.2.2.2.2.1.length=N:=⟨_,rfl⟩
 rw[hN]
 obtain⟨n1,r1,a1,b1,P1⟩:=cF (r:=gf f) f.2.1.length iI (fun k=>∀ hk:k<f.2.1.length,f.2.1[k].1.length≤600∧f.2.1[k].2.1.2.1.length≤75∧f.2.1[k].2.1.2.2.1.length≤75) (fun n k hk h0 h6=>by
  obtain⟨q1,q2,q3,_⟩:=hp _ (List.getElem_mem hk)
  refine⟨n-8*f.2.1[k].2.1.2.1.length-8*f.2.1[k].2.1.2.2.1.length-f.2.1[k].1.length,?_,by omega,by omega,fun h0 _=>⟨by omega,by omega,by omega⟩⟩
  unfold gf
  dsimp only
  rw[za (GD hk h0),zc (zo hk),zc (zo hk),zc (zo hk),z7,xh hk,vA k _ hk (by omega),zQ (x:=8*(f.2.1[k].2.1.2.1.length:Int)) (by omega) (by omega),zQ (x:=8*(f.2.1[k].2.1.2.2.1.length:Int)) (by omega) (by omega),
   zQ (x:=n-_) (by omega) (by omega),zQ (x:=n-_-_) (by omega) (by omega),zQ (by omega) (by omega)])
  (fun n k hk=>by unfold gf; dsimp only; rw[z8 (Gm hk),z7]) (600-20*(N:Int)) (by omega) (by omega)
 obtain⟨n2,r2,a2,b2,P2⟩:=cF (r:=yO f) f.1.length TG (fun k=>∀ hk:k<f.1.length,f.1[k].1.length≤600) (fun n k hk h0 h6=>by
  have q1:=hs _ (List.getElem_mem hk)
  refine⟨n-f.1[k].1.length,?_,by omega,by omega,fun h0 _=>by omega⟩
  unfold yO
  dsimp only
  rw[za (GD hk h0),zc (zo hk),z7,xh hk,vA k _ hk (by omega),zQ (by omega) (by omega)])
  (fun n k hk=>by unfold yO; dsimp only; rw[z8 (Gm hk),z7]) n1 a1 (by omega)
 obtain⟨n3,r3,a3,b3,P3⟩:=cF (r:=yH f) f.2.2.1.length hl3 (fun k=>∀ hk:k<f.2.2.1.length,f.2.2.1[k].1.length≤600∧f.2.2.1[k].2.1.length≤600) (fun n k hk h0 h6=>by
  obtain⟨q1,q2⟩:=hg _ (List.getElem_mem hk)
  refine⟨n-f.2.2.1[k].1.length-f.2.2.1[k].2.1.length,?_,by omega,by omega,fun h0 _=>⟨by omega,by omega⟩⟩
  unfold yH
  dsimp only
  rw[za (GD hk h0),zc (zo hk),zc (zo hk),z7,xh hk,vA k _ hk (by omega),zQ (x:=n-_) (by omega) (by omega),zQ (by omega) (by omega)])
  (fun n k hk=>by unfold yH; dsimp only; rw[z8 (Gm hk),z7]) n2 a2 (by omega)
 obtain⟨n4,r4,a4,b4,P4⟩:=cF (r:=yC f) f.2.2.2.1.length hl4 (fun k=>∀ hk:k<f.2.2.2.1.length,f.2.2.2.1[k].1.length≤600) (fun n k hk h0 h6=>by
  have q1:=hd _ (List.getElem_mem hk)
  refine⟨n-f.2.2.2.1[k].1.length,?_,by omega,by omega,fun h0 _=>by omega⟩
  unfold yC
  dsimp only
  rw[za (GD hk h0),zc (zo hk),z7,xh hk,vA k _ hk (by omega),zQ (by omega) (by omega)])
  (fun n k hk=>by unfold yC; dsimp only; rw[z8 (Gm hk),z7]) n3 a3 (by omega)
 obtain⟨n5,r5,a5,b5,P5⟩:=cF (r:=yL f) f.2.2.2.2.1.length hl5 (fun k=>∀ hk:k<f.2.2.2.2.1.length,f.2.2.2.2.1[k].1.length≤600∧f.2.2.2.2.1[k].2.2.1.length≤600∧szE f.2.2.2.2.1[k].2.2.2.1≤600∧szE f.2.2.2.2.1[k].2.2.2.2.1≤600∧szE f.2.2.2.2.1[k].2.2.2.1+szE f.2.2.2.2.1[k].2.2.2.2.1≤600) (fun n k hk h0 h6=>by
  obtain⟨q1,q2,q3,q4⟩:=hr _ (List.getElem_mem hk)
  have m1:=V4 f.2.2.2.2.1[k].2.2.2.1 (n-f.2.2.2.2.1[k].1.length-f.2.2.2.2.1[k].2.2.1.length)
  have m2:=V4 f.2.2.2.2.1[k].2.2.2.2.1 (wtE f.2.2.2.2.1[k].2.2.2.1 (n-f.2.2.2.2.1[k].1.length-f.2.2.2.2.1[k].2.2.1.length))
  have s1:=Yd f.2.2.2.2.1[k].2.2.2.1 (n-f.2.2.2.2.1[k].1.length-f.2.2.2.2.1[k].2.2.1.length)
  have s2:=Yd f.2.2.2.2.1[k].2.2.2.2.1 (wtE f.2.2.2.2.1[k].2.2.2.1 (n-f.2.2.2.2.1[k].1.length-f.2.2.2.2.1[k].2.2.1.length))
  have w1:=lJ f.2.2.2.2.1[k].2.2.2.1 (n-f.2.2.2.2.1[k].1.length-f.2.2.2.2.1[k].2.2.1.length) (by omega) (by omega) (by omega)
  have w2:=lJ f.2.2.2.2.1[k].2.2.2.2.1 (wtE f.2.2.2.2.1[k].2.2.2.1 (n-f.2.2.2.2.1[k].1.length-f.2.2.2.2.1[k].2.2.1.length)) (by omega) (by omega) (by omega)
  refine⟨wtE f.2.2.2.2.1[k].2.2.2.2.1 (wtE f.2.2.2.2.1[k].2.2.2.1 (n-f.2.2.2.2.1[k].1.length-f.2.2.2.2.1[k].2.2.1.length)),?_,by omega,by omega,fun h0 _ => ?_⟩
  ·unfold yL
   dsimp only
   rw[za (GD hk h0),zc (zo hk),zc (zo hk),zc (zo hk),zc (zo hk),xh hk,vA k _ hk (by omega),zQ (x:=n-_) (by omega) (by omega),zQ (x:=n-_-_) (by omega) (by omega),z6 w1,z6 w2,z7]
  ·have t2:=s2 h0
   have t1:=s1 (by omega)
   exact⟨by omega,by omega,by omega,by omega,by omega⟩)
  (fun n k hk=>by unfold yL; dsimp only; rw[z8 (Gm hk),z7]) n4 a4 (by omega)
 obtain⟨n6,r6,a6,b6,P6⟩:=cF (r:=yy f) f.2.2.2.2.2.1.length hl6 (fun k=>∀ hk:k<f.2.2.2.2.2.1.length,f.2.2.2.2.2.1[k].1.length≤600∧szE f.2.2.2.2.2.1[k].2.2.2.1≤600∧szE f.2.2.2.2.2.1[k].2.2.2.2.1≤600) (fun n k hk h0 h6=>by
  obtain⟨q1,q3,q4⟩:=hc _ (List.getElem_mem hk)
  have m1:=V4 f.2.2.2.2.2.1[k].2.2.2.1 (n-f.2.2.2.2.2.1[k].1.length)
  have m2:=V4 f.2.2.2.2.2.1[k].2.2.2.2.1 (wtE f.2.2.2.2.2.1[k].2.2.2.1 (n-f.2.2.2.2.2.1[k].1.length))
  have s1:=Yd f.2.2.2.2.2.1[k].2.2.2.1 (n-f.2.2.2.2.2.1[k].1.length)
  have s2:=Yd f.2.2.2.2.2.1[k].2.2.2.2.1 (wtE f.2.2.2.2.2.1[k].2.2.2.1 (n-f.2.2.2.2.2.1[k].1.length))
  have w1:=lJ f.2.2.2.2.2.1[k].2.2.2.1 (n-f.2.2.2.2.2.1[k].1.length) (by omega) (by omega) (by omega)
  have w2:=lJ f.2.2.2.2.2.1[k].2.2.2.2.1 (wtE f.2.2.2.2.2.1[k].2.2.2.1 (n-f.2.2.2.2.2.1[k].1.length)) (by omega) (by omega) (by omega)
  refine⟨wtE f.2.2.2.2.2.1[k].2.2.2.2.1 (wtE f.2.2.2.2.2.1[k].2.2.2.1 (n-f.2.2.2.2.2.1[k].1.length)),?_,by omega,by omega,fun h0 _ => ?_⟩
  ·unfold yy
   dsimp only
   rw[za (GD hk h0),zc (zo hk),zc (zo hk),zc (zo hk),xh hk,vA k _ hk (by omega),zQ (x:=n-_) (by omega) (by omega),z6 w1,z6 w2,z7]
  ·have t2:=s2 h0
   have t1:=s1 (by omega)
   exact⟨by omega,by omega,by omega⟩)
  (fun n k hk=>by unfold yy; dsimp only; rw[z8 (Gm hk),z7]) n5 a5 (by omega)
 have r1:(Zx f (600-20*(N:Int),0)).run=some n1:=r1
 have r2:(ZG f (n1,0)).run=some n2:=r2
 have r3:(ZY f (n2,0)).run=some n3:=r3
 have r4:(ZA f (n3,0)).run=some n4:=r4
 have r5:(Zz f (n4,0)).run=some n5:=r5
 have r6:(ZO f (n5,0)).run=some n6:=r6
 rw[z6 r1,z6 r2,z6 r3,z6 r4,z6 r5,z6 r6,z7]
 refine⟨_,rfl,fun hb => ?_⟩
 have h0:0≤n6:=by have:=of_decide_eq_false hb; omega
 have R5:∀ x∈f.2.2.2.2.1,x.1.length≤600∧x.2.2.1.length≤600∧szE x.2.2.2.1≤600∧szE x.2.2.2.2.1≤600∧szE x.2.2.2.1+szE x.2.2.2.2.1≤600:=WX fun k hk=>P5 (by omega) k hk hk
 exact⟨⟨by omega,WX fun k hk=>P2 (by omega) k hk hk,WX fun k hk=>P1 (by omega) k hk hk,WX fun k hk=>P3 (by omega) k hk hk,WX fun k hk=>P4 (by omega) k hk hk,fun x hx=>⟨(R5 x hx).1,(R5 x hx).2.1,(R5 x hx).2.2.1,(R5 x hx).2.2.2.1⟩,WX fun k hk=>P6 (by omega) k hk hk⟩,fun x hx=>(R5 x hx).2.2.2.2⟩
theorem Et(l:List Rat)(hl:l.length≤4000000000000):∃ b,(gS l).run=some b∧(b=false→∀ x∈l,x.2.1.length≤3∧x.2.2.1.length≤3):=by
 have:=T.xm (r:=bz l) (fun s:Int×Int=>∃ k:Nat,s.2=(k:Int)∧k≤l.length∧∀ x∈l.take k,x.2.1.length≤3∧x.2.2.1.length≤3) (fun s=>l.length-s.2.toNat)
  (fun z:Unit⊕Bool=>z=.inr true∨(z=.inl ()∧∀ x∈l,x.2.1.length≤3∧x.2.2.1.length≤3)) (fun s hs => ?_) (s:=(0,0)) ⟨0,rfl,by omega,by simp⟩
 ·obtain⟨z,h1,h2⟩:=this
  have h1:(QX l (0,0)).run=some z:=h1
  unfold gS
  rw[z6 h1]
  rcases h2 with rfl | ⟨rfl,h2⟩
  ·exact⟨true,rfl,fun h=>by cases h⟩
  ·exact⟨false,rfl,fun _=>h2⟩
 ·obtain⟨n,i⟩:=s
  obtain⟨k,rfl,hk,hI⟩:=hs
  by_cases c:k<l.length
  ·unfold bz
   simp only
   rw[za (qQ c),zc (zo c),zc (zo c),zc (fun _=>⟨zo c,fun _=>zo c⟩)]
   have hx:nth l (k:Int) (zb zt)=l[k]:=by simp[nth,c]
   rw[hx]
   generalize decide ((100:Int)<zu (zu (zu (n+1)+((l[k]).2.1.length:Int))+((l[k]).2.2.1.length:Int)))=b
   cases hb:(b||(decide ((3:Int)<((l[k]).2.1.length:Int))||decide ((3:Int)<((l[k]).2.2.1.length:Int))))with
   | true=>right; exact⟨_,rfl,.inl rfl⟩
   | false =>
    simp only[Bool.or_eq_false_iff,decide_eq_false_iff_not]at hb
    left
    refine⟨_,rfl,⟨k+1,vA k _ c hl,c,fun x hx => ?_⟩,?_⟩
    ·rw[List.take_succ_eq_append_getElem c]at hx
     rcases List.mem_append.1 hx with hx | hx
     ·exact hI x hx
     ·have:x=l[k]:=by simpa using hx
      subst this; omega
    ·simp only[vA k _ c hl]; omega
  ·have FK:k=l.length:=by omega
   right
   refine⟨.inl (),?_,.inr ⟨rfl,?_⟩⟩
   ·unfold bz
    simp only
    rw[z8 (decide_eq_false (by omega)),z7]
   ·rw[FK,List.take_length]at hI; exact hI
theorem Qa{q:Q}(h:qX q≤16):Zl q=false:=by
 have h1:=wI q
 have h2:=wi q
 unfold Zl wX
 rw[xk,xX,Bool.or_eq_false_iff,decide_eq_false_iff_not,decide_eq_false_iff_not]
 rw[vO,ye]
 omega
theorem Yk{q:Q}(h:Zl q=false):qX q≤16:=by
 unfold Zl wX at h
 rw[xk,xX,Bool.or_eq_false_iff,decide_eq_false_iff_not,decide_eq_false_iff_not,vO,ye]at h
 unfold qX
 omega
theorem Gn{rs:List uP}:∀ {l:List (AC×Int×Int)},Ws rs l=none→∀ x∈l,Vt 16 x.1
 | [],_,x,hx=>by cases hx
 | y::r,h,x,hx=>by
  unfold Ws at h
  by_cases c:Us y.1=true
  ·rw[if_pos c]at h; cases h
  ·rw[if_neg c]at h
   rcases List.mem_cons.1 hx with rfl | hx
   ·have c:Us x.1=false:=by simpa using c
    unfold Us at c
    rw[Bool.or_eq_false_iff,List.any_eq_false]at c
    exact⟨Yk c.1,fun t ht=>Yk (by simpa using c.2 t ht)⟩
   ·exact Gn h x hx
abbrev R2:Rat:=(false,(([2]:List Int),(([1]:List Int),())))
theorem GG:qR (2:Q)=R2:=by
 show(decide ((2:Q).num<0),(zJ 2,(zJ 1,())))=R2
 rw[IW,Uf]
 rfl
theorem z6m:val R2=2:=by rw[← GG,xX]
theorem EN:qX (2:Q)≤16:=by
 unfold qX
 show max (zJ 2).length (zJ 1).length≤16
 rw[IW,Uf]
 decide
def eM:Expr:=z4p 5 [KP [97],KP [112]]
def f9:Form:=(([]:List Switch),(([(([112]:zf),(R2,()))]:List Param),(([(([113]:zf),(([]:zf),()))]:List tr),(([(([97]:zf),((0:Int),(false,((0:Int),())))),(([98]:zf),((0:Int),(false,((0:Int),()))))]:List Field),(([(([114]:zf),((0:Int),(([]:zf),(eM,(KP [98],())))))]:List uP),(([]:List Check),()))))))
theorem z2E:WV eM:=FG 5 (V7 2 eT _ tO (by simp)) (V7 2 eT _ tO (by simp))
theorem z33:WV (KP [98]):=V7 2 eT _ tO (by simp)
theorem zd7:FS f9:=by
 refine⟨by decide,fun x hx=>absurd hx List.not_mem_nil,fun x hx => ?_,fun x hx => ?_,fun x hx => ?_,fun x hx => ?_,fun x hx=>absurd hx List.not_mem_nil⟩
 ·rw[List.mem_singleton.1 hx]
  refine⟨by show 1≤600; omega,?_,?_,by show 1≤100; omega,by show 1≤100; omega⟩
  ·rw[← GG]; exact(qF (Nat.le_refl _)).1
  ·rw[← GG]; exact(qF (Nat.le_refl _)).2.1
 ·rw[List.mem_singleton.1 hx]; exact⟨by show 1≤600; omega,by show 0≤600; omega⟩
 ·rcases List.mem_cons.1 hx with rfl | hx
  ·show 1≤600; omega
  ·rw[List.mem_singleton.1 hx]; show 1≤600; omega
 ·rw[List.mem_singleton.1 hx]
  exact⟨by show 1≤600; omega,by show 0≤600; omega,⟨by decide,z2E.1⟩,by decide,z33.1⟩
theorem zcG:eB (norm R2)=[50]:=by
 rw[Po]
 unfold eB
 rw[if_pos (by decide)]
 show ME false++pr 2=[50]
 unfold pr
 rw[if_neg (by decide),tJ (by decide),show 2 / 10=0 from rfl,sS]
 rfl
theorem z6J:(frS f9).length≤16384:=by
 have h1:(Iv ([112],(R2,()))).length≤100:=by unfold Iv; rw[zcG]; decide
 have e:frS f9=([]++(Iv ([112],(R2,()))++[])++(List.range 1).flatMap (Ma f9))++(LY ([114],(0,([],(eM,(KP [98],())))))++[]):=rfl
 have h2:((List.range 1).flatMap (Ma f9)).length≤1000:=by decide +kernel
 have h3:(LY ([114],(0,([],(eM,(KP [98],())))))).length≤1000:=by decide +kernel
 rw[e]
 simp only[List.length_append,List.length_nil]
 omega
theorem IX:eG R2=true∧wX R2=false:=by
 have:=NC z1L
 rw[Rx]at this
 exact⟨this.1,this.2.2.1⟩
theorem zct:rm f9=true:=by
 have h2:a2 f9=true:=by
  show(!(fK ([112],(R2,()))||false))=true
  unfold fK
  rw[IX.1,IX.2]
  rfl
 unfold rm
 rw[h2,decide_eq_true (by have:=z6J; omega)]
 decide +kernel
theorem zc7:BU f9=(0,[]):=by
 unfold BU
 rw[if_pos zct,show(Zg [] (Zh f9)).2=false by decide +kernel,if_neg (by decide),show OX f9=none by decide +kernel,show Pj f9=none by decide +kernel,show lnF f9=none by decide +kernel]
 rfl
def l9:List (AC×Int×Int):=[(([(0,2),(1,-1)],0),(0,0))]
theorem z15:j9 (vF f9 [R2]) eM (KP [98])=(([(0,2),(1,-1)],0),0):=by
 have n1:eQ (vF f9 [R2]) [97]=(([(0,1)],0),0):=by decide +kernel
 have n3:eQ (vF f9 [R2]) [98]=(([(1,1)],0),0):=by decide +kernel
 have n2:eQ (vF f9 [R2]) [112]=(([],2),0):=by
  show(if 0≤PL.vu (zM [112]) 0 [[97],[98]]then _ else if PL.vu (zM [112]) 0 [[112]]<0 then(Q5,5)else(([],rP [R2] (PL.vu (zM [112]) 0 [[112]])),0))=_
  rw[if_neg (by decide +kernel),if_neg (by decide +kernel)]
  show((([]:List (Int×Q)),val R2),(0:Int))=_
  rw[z6m]
 have o1:eO (vF f9 [R2]) eM=(([(0,2)],0),0):=by
  unfold eO
  rw[if_pos (by decide +kernel)]
  show z8n 5 [eQ (vF f9 [R2]) [97],eQ (vF f9 [R2]) [112]]=_
  rw[n1,n2]
  decide +kernel
 have o2:eO (vF f9 [R2]) (KP [98])=(([(1,1)],0),0):=by
  unfold eO
  rw[if_pos (by decide +kernel)]
  exact n3
 unfold j9
 rw[o1,o2]
 decide +kernel
theorem zbf:PW f9 [R2] []=.ok l9:=by
 have hr:Um (vF f9 [R2]) f9.1 [] 0 f9.2.2.2.2.1 []=.ok l9:=by
  show(if LL [] [] []=true then(if(j9 (vF f9 [R2]) eM (KP [98])).2≠0 then EL.er [114] (j9 (vF f9 [R2]) eM (KP [98])).2 else EL.ok ([]++[((j9 (vF f9 [R2]) eM (KP [98])).1,((0:Int),((0:Nat):Int)))]))else EL.ok [])=_
  rw[if_pos (by decide +kernel),z15]
  rfl
 have hb:Ws f9.2.2.2.2.1 l9=none:=by
  show(if Us ([(0,2),(1,-1)],0)=true then _ else none)=none
  have:Us ([(0,2),(1,-1)],0)=false:=by
   show(Zl 0||(Zl 2||(Zl (-1)||false)))=false
   rw[Qa (q:=0) (by rw[fy]; omega),Qa EN,Qa (q := -1) (by rw[bQ]; omega)]
   rfl
  rw[this]; rfl
 unfold PW
 rw[zc7,if_neg (by decide),if_neg (by decide),if_neg (by
  show ¬ (QN R2||false)=true
  unfold QN
  rw[IX.1,IX.2]; decide),hr]
 dsimp only
 rw[hb]
theorem KK:iK.run=some true:=by
 have h2:(xW (2:Int)).run=some R2:=by rw[← GG]; exact bV 2 ⟨by omega,by omega⟩
 have hE:=E5 f9 zd7 [R2] [] (fun x hx=>by rw[List.mem_singleton.1 hx,← GG]; exact qF (Nat.le_trans EN (by omega)))
 rw[zbf]at hE
 have hS:(y5 (qR 2) R2).run=some true:=by
  have h:=qF (Nat.le_trans EN (by omega:16≤100000))
  rw[← GG]
  exact Sg _ _ h h rfl
 unfold iK
 rw[z6 h2,z6 h2]
 refine(z6 (show(fx f9 [R2] []).run=_ from hE) _).trans ?_
 show(T.ite true (T.ite (zM [] []) (T.ite true (.zd _<|.ite true (.zd _<|.zd _<|T.bind (xW (2:Int)) fun r3=>T.bind (y5 (qR 2) r3) fun r4=>.ite r4 (.ret true) (.ret false)) (.ret false)) (.ret false)) (.ret false)) (.ret false)).run=_
 rw[zD,za (Fy _),zD,zc ⟨by decide,by decide⟩,zD,zc ⟨by decide,by decide⟩,zc ⟨by decide,by decide⟩,z6 h2,z6 hS,zD,z7]
theorem z7Q{f:Form}{ps:List Rat}{on:List Bool}{l:List (AC×Int×Int)}(h:PW f ps on=.ok l):(BU f).1=0∧ps.length=f.2.1.length∧on.length=f.1.length∧Um (vF f ps) f.1 on 0 f.2.2.2.2.1 []=.ok l∧Ws f.2.2.2.2.1 l=none:=by
 unfold PW at h
 by_cases c:(BU f).1≠0
 ·rw[if_pos c]at h; cases h
 ·rw[if_neg c]at h
  by_cases c1:ps.length≠f.2.1.length∨on.length≠f.1.length
  ·rw[if_pos c1]at h; cases h
  ·rw[if_neg c1]at h
   by_cases c2:ps.any QN=true
   ·rw[if_pos c2]at h; cases h
   ·rw[if_neg c2]at h
    cases w:Um (vF f ps) f.1 on 0 f.2.2.2.2.1 []with
    | er n e=>rw[w]at h; cases h
    | ok m =>
     rw[w]at h
     dsimp only at h
     cases hb:Ws f.2.2.2.2.1 m with
     | some n=>rw[hb]at h; cases h
     | none =>
      rw[hb]at h
      injection h with h
      subst h
      exact⟨Classical.not_not.1 c,by omega,by omega,rfl,hb⟩
theorem FY{v:zB}{sw:List Switch}{on:List Bool}:∀ {rs:List uP} {k:Nat} {acc:List (AC×Int×Int)} {n:zf} {e:Int},Um v sw on k rs acc=.er n e→e≠0
 | [],_,_,_,_,h=>by cases h
 | r::rs,k,acc,n,e,h=>by
  unfold Um at h
  by_cases c:LL sw on r.2.2.1=true
  ·rw[if_pos c]at h
   by_cases q:(j9 v r.2.2.2.1 r.2.2.2.2.1).2≠0
   ·rw[if_pos q]at h; injection h with h1 h2; subst h2; exact q
   ·rw[if_neg q]at h; exact FY h
  ·rw[if_neg c]at h; exact FY h
theorem z6X{f:Form}{ps:List Rat}{on:List Bool}{n:zf}{e:Int}(h:PW f ps on=.er n e):e≠0:=by
 unfold PW at h
 by_cases c:(BU f).1≠0
 ·rw[if_pos c]at h; injection h with h1 h2; subst h2; exact c
 ·rw[if_neg c]at h
  by_cases c1:ps.length≠f.2.1.length∨on.length≠f.1.length
  ·rw[if_pos c1]at h; injection h with h1 h2; subst h2; decide
  ·rw[if_neg c1]at h
   by_cases c2:ps.any QN=true
   ·rw[if_pos c2]at h; injection h with h1 h2; subst h2; decide
   ·rw[if_neg c2]at h
    cases w:Um (vF f ps) f.1 on 0 f.2.2.2.2.1 []with
    | er n' e'=>rw[w]at h; injection h with h1 h2; subst h2; exact FY w
    | ok m =>
     rw[w]at h
     dsimp only at h
     cases hb:Ws f.2.2.2.2.1 m with
     | some n=>rw[hb]at h; injection h with h1 h2; subst h2; decide
     | none=>rw[hb]at h; cases h
theorem GO(l:List Rat)(hw:∀ x∈l,zw x.2.1∧zw x.2.2.1)(hl:l.length≤4000000000000):∃ b,(gS l).run=some b∧(b=false→∀ x∈l,qS 100 x):=by
 obtain⟨b,h1,h2⟩:=Et l hl
 exact⟨b,h1,fun h x hx=>⟨(hw x hx).1,(hw x hx).2,by have:=h2 h x hx; omega,by have:=h2 h x hx; omega⟩⟩
theorem looked9(f:Form)(hw:wf zK f)(hb:bk zK f≤1048576):∃ b,(cH f).run=some b∧(b=false→FS f):=by
 obtain⟨b,hr,hf⟩:=DN f (z4y hw hb)
 exact⟨b,hr,fun h=>zdq hw (z4y hw hb) (hf h).1⟩
end Go.AM.Lf
