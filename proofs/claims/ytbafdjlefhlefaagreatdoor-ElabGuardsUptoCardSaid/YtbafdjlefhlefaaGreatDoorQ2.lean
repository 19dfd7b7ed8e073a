/-
  Plain laws of the lifted program, part 2.
-/
import Derived.Test.YtbafdjlefhlefaaGreatDoorLf1
import Derived.Test.YtbafdjlefhlefaaGreatDoorAmA
import Derived.Test.YtbafdjlefhlefaaGreatDoorAmD
import Derived.Test.YtbafdjlefhlefaaGreatDoorQ0
import Derived.Test.YtbafdjlefhlefaaGreatDoorQ1
set_option linter.unusedVariables false
open Go.AM.T (kS mW qI qT qh z6 z7 z8 zA zD zM za zc ze zr zx)
namespace Go.AM.Lf
open PL
theorem oD(a b:zf):zF a b=zF b a:=by
 rw[xH,xH]; exact decide_eq_decide.2 eq_comm
theorem iB{α:Type}(p:α→Bool)(i:Int)(x:α)(r:List α):PL.vE p i (x::r)=if p x=true then i else PL.vE p (i+1) r:=rfl
theorem MN(s:zf)(v:zJ)(h:gG v)(c0:wC):(fa s v ((0:Int),c0)).run=some (if PL.vE (zF s) 0 v.1 = -1 then .inl c0 else .inr ((0:Int),xh 0 ([(PL.vE (zF s) 0 v.1,1)],0))):=by
 have hl:=h.l1
 have h0:(wa (0:Int)).run=some (xn (0:Q)):=gW 0 ⟨by omega,by omega⟩
 have key:∀ (m k:Nat),k+m=v.1.length→(fa s v ((k:Int),c0)).run=some (if PL.vE (zF s) (k:Int) (v.1.drop k) = -1 then .inl c0 else .inr ((0:Int),xh 0 ([(PL.vE (zF s) (k:Int) (v.1.drop k),1)],0))):=by
  intro m
  induction m with
  | zero =>
   intro k hk
   have:k=v.1.length:=by omega
   subst this
   rw[List.drop_length]
   refine qh ?_
   unfold bE
   dsimp only
   rw[z8 (xi _),z7]
   rfl
  | succ m ih =>
   intro k hk
   have h1:k<v.1.length:=by omega
   rw[List.drop_eq_getElem_cons h1,iB]
   by_cases c:zF s v.1[k]=true
   ·rw[if_pos c,if_neg (by omega)]
    refine qh ?_
    unfold bE
    dsimp only
    rw[za (qL h1),zc (zo h1),qP h1,za (by rw[oD]; exact c),z6 C7,z6 h0,z7]
    rfl
   ·rw[if_neg c]
    refine(qI (s':=(((k+1:Nat):Int),c0)) ?_).trans ?_
    ·unfold bE
     dsimp only
     rw[za (qL h1),zc (zo h1),qP h1,z8 (by rw[oD]; simpa using c),z7,vr k _ h1 (by omega)]
    ·exact ih (k+1) (by omega)
 have:=key v.1.length 0 (by omega)
 rw[List.drop_zero]at this
 exact this
theorem Oh(s:zf)(v:zJ)(h:gG v)(c0:wC):(nM s v ((0:Int),c0)).run=some (if PL.vE (zF s) 0 v.2.1 = -1 then .inl c0 else .inr ((0:Int),xh 0 ([],tS v.2.2.1 (PL.vE (zF s) 0 v.2.1)))):=by
 have hl:=h.l2
 have hl3:=h.l3
 have h0:(wa (0:Int)).run=some (xn (0:Q)):=gW 0 ⟨by omega,by omega⟩
 have key:∀ (m k:Nat),k+m=v.2.1.length→(nM s v ((k:Int),c0)).run=some (if PL.vE (zF s) (k:Int) (v.2.1.drop k) = -1 then .inl c0 else .inr ((0:Int),xh 0 ([],tS v.2.2.1 (PL.vE (zF s) (k:Int) (v.2.1.drop k))))):=by
  intro m
  induction m with
  | zero =>
   intro k hk
   have:k=v.2.1.length:=by omega
   subst this
   rw[List.drop_length]
   refine qh ?_
   unfold bP
   dsimp only
   rw[z8 (xi _),z7]
   rfl
  | succ m ih =>
   intro k hk
   have h1:k<v.2.1.length:=by omega
   rw[List.drop_eq_getElem_cons h1,iB]
   by_cases c:zF s v.2.1[k]=true
   ·have c':zF v.2.1[k] s=true:=by rw[oD]; exact c
    rw[if_pos c,if_neg (by omega)]
    refine qh ?_
    unfold bP
    dsimp only
    rw[za (qL h1),zc (zo h1),qP h1,c',Bool.true_and]
    unfold tS
    by_cases c2:k<v.2.2.1.length
    ·have hm:nth v.2.2.1 (k:Int) (zb zI)∈v.2.2.1:=by rw[qP c2]; exact List.getElem_mem c2
     rw[za (qL c2),zc (zo c2),z6 (xO _ (xT (h.ok _ hm) (by omega))),z7,if_pos (by simpa using c2),xw]
     rfl
    ·rw[z8 (decide_eq_false (by omega)),zc (zo h1),zA,z6 h0,z7,if_neg (by simpa using c2)]
     rfl
   ·have c':zF v.2.1[k] s=false:=by rw[oD]; simpa using c
    rw[if_neg c]
    refine(qI (s':=(((k+1:Nat):Int),c0)) ?_).trans ?_
    ·unfold bP
     dsimp only
     rw[za (qL h1),zc (zo h1),qP h1,c',Bool.false_and,zr,zc (zo h1),zr,z7,vr k _ h1 (by omega)]
    ·exact ih (k+1) (by omega)
 have:=key v.2.1.length 0 (by omega)
 rw[List.drop_zero]at this
 exact this
theorem KQ{v:zJ}(h:gG v)(s:zf):(tv s v).run=some (gC (mB v s)):=by
 have g0:=MN s v h zC
 have g1:=Oh s v h zC
 have r0:=EV (zF s) v.1
 have r1:=EV (zF s) v.2.1
 unfold tv mB
 have g0:(fa s v ((0:Int),((0:Int),(([]:List Term),((false,(([]:List Int),(([]:List Int),()))),()))))).run=_:=g0
 rw[z6 g0]
 by_cases c:PL.vE (zF s) 0 v.1 = -1
 ·rw[if_pos c,if_neg (by omega),Sum.elim_inl,z6 g1]
  by_cases c2:PL.vE (zF s) 0 v.2.1 = -1
  ·rw[if_pos c2,if_pos (by omega)]; rfl
  ·rw[if_neg c2,if_neg (by omega)]; rfl
 ·rw[if_neg c,if_pos (by omega)]; rfl
theorem Yj(k:Int)(a b:AC)(hk:k=3∨k=4∨k=5∨k=6)(ha:UO 400000 a)(hb:UO 400000 b)(la:a.1.length≤400000)(lb:b.1.length≤400000) :
  (.ite (k==(3:Int)) (T.bind (dC (xh 0 a) (xh 0 b)) fun r7=>.ret (r7,(0:Int)))
   (.ite (k==(4:Int)) (T.bind (wa (-1:Int)) fun r8=>T.bind (wZ (xh 0 b) r8) fun r9=>T.bind (dC (xh 0 a) r9) fun Nv=>.ret (Nv,(0:Int)))
    (.ite (k==(5:Int)) (T.bind (sJ (xh 0 a) (xh 0 b)) fun(r11,r12)=>.ret (r11,r12)) (T.bind (pN (xh 0 a) (xh 0 b)) fun(r13,r14)=>.ret (r13,r14)))):T (wC×Int)).run=some (gC (Za k a b)):=by
 have Cm:=uv ha (by omega:400000≤1000000)
 have Zm:=uv hb (by omega:400000≤1000000)
 have m1:=cP
 unfold Za
 by_cases k3:k=3
 ·rw[if_pos k3,za (by simpa using k3),z6 (oo 0 0 a b Cm Zm (by omega) (by omega)),z7]
  rfl
 ·rw[if_neg k3,z8 (by simpa using k3)]
  by_cases k4:k=4
  ·have hs:=lW (b := -1) (j:=1) (by omega) hb
   have hl:=bL (-1) b.1
   rw[if_pos k4,za (by simpa using k4),z6 Kt,z6 (uD (-1) 0 b (by omega) Zm (by omega)),z6 (oo 0 0 a (H5 (-1) b) Cm (uv hs (by omega)) (by omega) (by show(XB (-1) b.1).length≤1000000; omega)),z7]
   rfl
  ·rw[if_neg k4,z8 (by simpa using k4)]
   by_cases k5:k=5
   ·rw[if_pos k5,za (by simpa using k5)]
    have hm:(sJ (xh 0 a) (xh 0 b)).run=some (gC (if a.1≠[]∧b.1≠[]then(VN,6)else if a.1≠[]then(H5 b.2 a,0)else(H5 a.2 b,0))):=by
     unfold sJ
     rw[y7,y7]
     by_cases c:a.1≠[]∧b.1≠[]
     ·rw[if_pos c,za (by rw[decide_eq_true c.1,decide_eq_true c.2]; rfl),z7]; rfl
     ·rw[if_neg c,z8 (by by_cases h:a.1≠[]; rw[decide_eq_false (fun h2=>c ⟨h,h2⟩),Bool.and_false]; rw[decide_eq_false h]; rfl)]
      by_cases c2:a.1≠[]
      ·rw[if_pos c2,za (decide_eq_true c2)]
       show(T.bind (wZ (xh 0 a) (xn b.2)) _).run=_
       rw[z6 (uD b.2 0 a (by have:=hb.1; omega) Cm (by omega)),z7]; rfl
      ·rw[if_neg c2,z8 (decide_eq_false c2)]
       show(T.bind (wZ (xh 0 b) (xn a.2)) _).run=_
       rw[z6 (uD a.2 0 b (by have:=ha.1; omega) Zm (by omega)),z7]; rfl
    rw[z6 hm]
    rfl
   ·have Bc:=hb.1
    rw[if_neg k5,z8 (by simpa using k5)]
    have hm:(pN (xh 0 a) (xh 0 b)).run=some (gC (if b.1≠[]then(VN,6)else if b.2=0 then(VN,7)else(H5 (1 / b.2) a,0))):=by
     obtain⟨z,hd⟩:=GQ (xn 1) (xn b.2) (xa (by rw[HG]; omega)) (xa (by omega))
     rw[vI,vI]at hd
     unfold pN
     rw[y7]
     by_cases c:b.1≠[]
     ·rw[if_pos c,za (decide_eq_true c),z7]; rfl
     ·rw[if_neg c,z8 (decide_eq_false c),z6 C7]
      show(T.bind (iI (xn 1) (xn b.2)) _).run=_
      rw[z6 hd]
      dsimp only
      by_cases z:b.2=0
      ·rw[if_pos z,if_pos z,za (by simp[z]),z7]; rfl
      ·have:=JS b.2
       rw[if_neg z,if_neg z,z8 (by simp[z]),z6 (uD (1 / b.2) 0 a (by omega) Cm (by omega)),z7]; rfl
    rw[z6 hm]
    rfl
theorem C6{v:zJ}(hv:gG v)(e:Expr)(d:Nat)(ho:vf d e=true)(ha:allOk e)(hn:wu e≤1000):(Uu e v).run=some (gC (mc v e)):=by
 unfold Uu
 refine kS (fun x:Expr×zJ=>(∃ d,vf d x.1=true)∧allOk x.1∧wu x.1≤1000∧x.2=v) (fun x=>wu x.1) (fun x=>gC (mc v x.1)) (fun x hx g hg => ?_) (x:=(e,v)) ⟨⟨d,ho⟩,ha,hn,rfl⟩
 obtain⟨e,v'⟩:=x
 obtain⟨⟨d,ho⟩,ha,hn,Li⟩:=hx
 dsimp only at ho ha hn Li ⊢
 subst Li
 cases e with | mk k n s l =>
 rw[Fq]
 unfold tp
 rw[show Expr.kind (.mk k n s l)=k from rfl,show Expr.kids (.mk k n s l)=l from rfl,show Expr.num (.mk k n s l)=n from rfl,show Expr.name (.mk k n s l)=s from rfl]
 rcases Wr ho with rfl | rfl | ⟨rfl,a,rfl,Ce⟩ | ⟨hk,a,b,rfl,Ce,hob⟩
 ·rw[if_pos rfl,za (by rfl),z6 (xO n (xT ha.1 (by omega))),z7,xw]; rfl
 ·rw[if_neg (by decide),if_pos rfl,z8 (by rfl),za (by rfl),z6 (KQ hv s),z7]
 ·rw[Ko]at hn
  have hr:=hg (a,v') ⟨⟨_,Ce⟩,ha.2.1,by show wu a≤1000; omega,rfl⟩ (by show wu a<wu (.mk 7 n s [a]); rw[Ko]; omega)
  have ka:=ZS hv (wu a) a (d+1) (Nat.le_refl _) Ce ha.2.1
  dsimp only at hr
  rw[if_neg (by decide),if_neg (by decide),z8 (by rfl),z8 (by rfl),zc ⟨by omega,by simp⟩,show nth [a] (0:Int) (zb .expr)=a from rfl,z6 hr]
  show _=some (gC (if(mc v' a).2≠0 then(VN,(mc v' a).2)else(H5 (-1) (mc v' a).1,0)))
  generalize mc v' a=A at *
  obtain⟨A1,A2⟩:=A
  have kl:=ka.len
  dsimp only at ka kl ⊢
  by_cases c:A2≠0
  ·rw[if_pos c,wm c,wm c]
   dsimp only
   rw[za (by simpa using c),z7]; rfl
  ·have:A2=0:=by simpa using c
   subst this
   have m1:=cP
   rw[if_neg (by decide),jf,jf]
   dsimp only
   rw[z8 (by rfl),za (by rfl),z6 Kt,z6 (uD (-1) 0 A1 (by omega) (uv ka.sz (by omega)) (by omega)),z7]
 ·rw[ZF]at hn
  have hra:=hg (a,v') ⟨⟨_,Ce⟩,ha.2.1,by show wu a≤1000; omega,rfl⟩ (by show wu a<wu (.mk k n s [a,b]); rw[ZF]; omega)
  have hrb:=hg (b,v') ⟨⟨_,hob⟩,ha.2.2.1,by show wu b≤1000; omega,rfl⟩ (by show wu b<wu (.mk k n s [a,b]); rw[ZF]; omega)
  have ka:=ZS hv (wu a) a (d+1) (Nat.le_refl _) Ce ha.2.1
  have kb:=ZS hv (wu b) b (d+1) (Nat.le_refl _) hob ha.2.2.1
  dsimp only at hra hrb
  have k1:(k==1)=false:=by rw[beq_eq_false_iff_ne]; omega
  have k2:(k==2)=false:=by rw[beq_eq_false_iff_ne]; omega
  have k7:(k==7)=false:=by rw[beq_eq_false_iff_ne]; omega
  rw[if_neg (by omega),if_neg (by omega),z8 k1,z8 k2,zc ⟨by omega,by simp⟩,show nth [a,b] (0:Int) (zb .expr)=a from rfl,show nth [a,b] (1:Int) (zb .expr)=b from rfl,z6 hra]
  show _=some (gC (if(mc v' a).2≠0 then(VN,(mc v' a).2)else if(mc v' b).2≠0 then(VN,(mc v' b).2)else Za k (mc v' a).1 (mc v' b).1))
  generalize mc v' a=A at *
  generalize mc v' b=B at *
  obtain⟨A1,A2⟩:=A
  obtain⟨B1,B2⟩:=B
  have kl:=ka.len
  have kl2:=kb.len
  dsimp only at ka kb kl kl2 ⊢
  by_cases c:A2≠0
  ·rw[if_pos c,wm c,wm c]
   dsimp only
   rw[za (by simpa using c),z7]; rfl
  ·have:A2=0:=by simpa using c
   subst this
   rw[if_neg (by decide),jf]
   dsimp only
   rw[z8 (by rfl),z8 k7,zc ⟨by omega,by simp⟩,z6 hrb]
   by_cases c2:B2≠0
   ·rw[if_pos c2,wm c2,wm c2]
    dsimp only
    rw[za (by simpa using c2),z7]; rfl
   ·have:B2=0:=by simpa using c2
    subst this
    rw[if_neg (by decide),jf]
    dsimp only
    rw[z8 (by rfl)]
    exact Yj k A1 B1 hk (uv ka.sz (by omega)) (uv kb.sz (by omega)) (by omega) (by omega)
def Qz(v:zJ)(e:Expr):AC×Int:=if isE e=true then mc v e else(VN,5)
theorem Fl{e:Expr}(h:isE e=true):vf 0 e=true∧wu e≤256:=by
 unfold isE at h
 rw[Bool.and_eq_true,decide_eq_true_eq]at h
 exact h
theorem Wu{v:zJ}(hv:gG v)(e:Expr)(ha:allOk e):SzA 256 (Qz v e):=by
 unfold Qz
 by_cases h:isE e=true
 ·rw[if_pos h]
  obtain⟨h1,h2⟩:=Fl h
  have:=ZS hv (wu e) e 0 (Nat.le_refl _) h1 ha
  exact⟨uv this.sz (by omega),Nat.le_trans this.len h2⟩
 ·rw[if_neg h]; exact Ze (by omega) _
theorem Kl{v:zJ}(hv:gG v)(e:Expr)(ha:allOk e)(hn:wu e≤100000):(Km e v).run=some (gC (Qz v e)):=by
 unfold Km Qz
 rw[z6 (MS e ha (by omega))]
 cases h:isE e with
 | false=>rw[if_neg (by simp)]; rfl
 | true =>
  obtain⟨h1,h2⟩:=Fl h
  rw[if_pos rfl,z8 (by rfl),z6 (BJ hv e 0 h1 ha (by omega)),z7]
theorem Vx{v:zJ}(hv:gG v)(e:Expr)(ha:allOk e)(hn:wu e≤100000)(hb:bkE e≤1000000000):(QM e v).run=some (gC (Qz v e)):=by
 unfold QM Qz
 rw[z6 (UF e ha hb (by omega))]
 cases h:isE e with
 | false=>rw[if_neg (by simp)]; rfl
 | true =>
  obtain⟨h1,h2⟩:=Fl h
  rw[if_pos rfl,z8 (by rfl),z6 (C6 hv e 0 h1 ha (by omega)),z7]
def kh(v:zJ)(l r:Expr):AC×Int :=
 if(Qz v l).2≠0 then(VN,(Qz v l).2)else if(Qz v r).2≠0 then(VN,(Qz v r).2)else(adC (Qz v l).1 (H5 (-1) (Qz v r).1),0)
def Od(s:Int)(r:AC×Int):wC×Int:=(if r.2=0 then xh s r.1 else zC,r.2)
theorem mT{s:Int}{a:AC}{x:Int}(h:x≠0):Od s (a,x)=(zC,x):=by unfold Od; rw[if_neg h]
theorem Ul(s:Int)(a:AC):Od s (a,0)=(xh s a,0):=by unfold Od; rw[if_pos rfl]
theorem z1X{v:zJ}(hv:gG v)(l r:Expr)(hl:allOk l)(hr:allOk r):SzA 520 (kh v l r):=by
 have kl:=Wu hv l hl
 have kr:=Wu hv r hr
 have m1:=cP
 unfold kh
 split
 ·exact Ze (by omega) _
 ·split
  ·exact Ze (by omega) _
  ·have hs:=lW (b := -1) (j:=1) (by omega) kr.sz
   have hle:=bL (-1) (Qz v r).1.1
   have:=kl.len
   have:=kr.len
   exact⟨uv (EH kl.sz hs) (by omega),by have:=lg ((Qz v l).1.1.length+(XB (-1) (Qz v r).1.1).length) (Qz v l).1.1 (XB (-1) (Qz v r).1.1); show(mn ((Qz v l).1.1.length+(XB (-1) (Qz v r).1.1).length) (Qz v l).1.1 (XB (-1) (Qz v r).1.1)).length≤_; omega⟩
theorem FU{v:zJ}(hv:gG v)(r:uT)(h1:allOk r.2.2.2.1)(h2:allOk r.2.2.2.2.1)(n1:wu r.2.2.2.1≤100000)(n2:wu r.2.2.2.2.1≤100000):(oP r v).run=some (Od r.2.1 (kh v r.2.2.2.1 r.2.2.2.2.1)):=by
 have kl:=Wu hv r.2.2.2.1 h1
 have kr:=Wu hv r.2.2.2.2.1 h2
 have m1:=cP
 unfold oP kh
 rw[z6 (Kl hv r.2.2.2.1 h1 n1)]
 have hb:=Kl hv r.2.2.2.2.1 h2 n2
 generalize Qz v r.2.2.2.1=A at *
 generalize Qz v r.2.2.2.2.1=B at *
 obtain⟨A1,A2⟩:=A
 obtain⟨B1,B2⟩:=B
 have ll:=kl.len
 have lr:=kr.len
 dsimp only at kl kr ll lr ⊢
 by_cases c:A2≠0
 ·rw[if_pos c,wm c,mT c]
  dsimp only
  rw[za (by simpa using c),z7]
 ·have:A2=0:=by simpa using c
  subst this
  rw[if_neg (by decide),jf]
  dsimp only
  rw[z8 (by rfl),z6 hb]
  by_cases c2:B2≠0
  ·rw[if_pos c2,wm c2,mT c2]
   dsimp only
   rw[za (by simpa using c2),z7]
  ·have:B2=0:=by simpa using c2
   subst this
   have hs:=lW (b := -1) (j:=1) (by omega) kr.sz
   have hle:=bL (-1) B1.1
   rw[if_neg (by decide),jf,Ul]
   dsimp only
   rw[z8 (by rfl),z6 Ux,z6 (jl (-1) 0 B1 (by omega) (uv kr.sz (by omega)) (by omega)),z6 (rA 0 0 A1 (H5 (-1) B1) (uv kl.sz (by omega)) (uv hs (by omega)) (by omega) (by show(XB (-1) B1.1).length≤_; omega)),z7]
   rfl
theorem H8{v:zJ}(hv:gG v)(r:uT)(h1:allOk r.2.2.2.1)(h2:allOk r.2.2.2.2.1)(n1:wu r.2.2.2.1≤100000)(n2:wu r.2.2.2.2.1≤100000)(b1:bkE r.2.2.2.1≤1000000000)(b2:bkE r.2.2.2.2.1≤1000000000):(cF r v).run=some (Od r.2.1 (kh v r.2.2.2.1 r.2.2.2.2.1)):=by
 have kl:=Wu hv r.2.2.2.1 h1
 have kr:=Wu hv r.2.2.2.2.1 h2
 have m1:=cP
 unfold cF kh
 rw[z6 (Vx hv r.2.2.2.1 h1 n1 b1)]
 have hb:=Vx hv r.2.2.2.2.1 h2 n2 b2
 generalize Qz v r.2.2.2.1=A at *
 generalize Qz v r.2.2.2.2.1=B at *
 obtain⟨A1,A2⟩:=A
 obtain⟨B1,B2⟩:=B
 have ll:=kl.len
 have lr:=kr.len
 dsimp only at kl kr ll lr ⊢
 by_cases c:A2≠0
 ·rw[if_pos c,wm c,mT c]
  dsimp only
  rw[za (by simpa using c),z7]; rfl
 ·have:A2=0:=by simpa using c
  subst this
  rw[if_neg (by decide),jf]
  dsimp only
  rw[z8 (by rfl),z6 hb]
  by_cases c2:B2≠0
  ·rw[if_pos c2,wm c2,mT c2]
   dsimp only
   rw[za (by simpa using c2),z7]; rfl
  ·have:B2=0:=by simpa using c2
   subst this
   have hs:=lW (b := -1) (j:=1) (by omega) kr.sz
   have hle:=bL (-1) B1.1
   rw[if_neg (by decide),jf,Ul]
   dsimp only
   rw[z8 (by rfl),z6 Kt,z6 (uD (-1) 0 B1 (by omega) (uv kr.sz (by omega)) (by omega)),z6 (oo 0 0 A1 (H5 (-1) B1) (uv kl.sz (by omega)) (uv hs (by omega)) (by omega) (by show(XB (-1) B1.1).length≤_; omega)),z7]
   rfl
structure FL(f:Form):Prop where
 n:f.1.length+f.2.1.length+f.2.2.1.length+f.2.2.2.1.length+f.2.2.2.2.1.length+f.2.2.2.2.2.1.length≤30
 s:∀ x∈f.1,x.1.length≤600
 p:∀ x∈f.2.1,x.1.length≤600∧x.2.1.2.1.length≤75∧x.2.1.2.2.1.length≤75
 g:∀ x∈f.2.2.1,x.1.length≤600∧x.2.1.length≤600
 d:∀ x∈f.2.2.2.1,x.1.length≤600
 r:∀ x∈f.2.2.2.2.1,x.1.length≤600∧x.2.2.1.length≤600∧szE x.2.2.2.1≤600∧szE x.2.2.2.2.1≤600
 c:∀ x∈f.2.2.2.2.2.1,x.1.length≤600∧szE x.2.2.2.1≤600∧szE x.2.2.2.2.1≤600
theorem c8(e:Expr):Expr.mk (Expr.kind e) ((Expr.num e).1,((Expr.num e).2.1,((Expr.num e).2.2.1,()))) (Expr.name e) (Expr.kids e)=e:=by
 cases e; rfl
mutual
theorem Pe:∀ e:Expr,bkE e≤4*szE e
 | .mk k n s l=>by
  have:=Mg l
  unfold bkE szE
  omega
theorem Mg:∀ l:List Expr,bkEs l≤4*szEs l
 | []=>Nat.le_refl _
 | e::r=>by
  have h1:=Pe e
  have h2:=Mg r
  unfold bkEs szEs
  omega
end
def dW(e:Expr):Prop:=szE e≤600∧allOk e
theorem jF{e:Expr}(h:dW e):bkE e≤2400:=by have:=Pe e; have:=h.1; omega
theorem Ue{e:Expr}(h:dW e):wu e≤256:=by have:=GR e; have:=h.1; omega
theorem Ub{e:Expr}(h:dW e):(uA e).run=some (vf 0 e):=Tt e h.2 (Ue h)
theorem X6{e:Expr}(h:dW e):(yU e).run=some (vf 0 e):=Vh e h.2 (by have:=jF h; omega) (Ue h)
theorem M9{e:Expr}(h:dW e)(ho:vf 0 e=true):(cj e).run=some (prE e):=MO e ho h.2 (by have:=h.1; omega)
theorem QR{e:Expr}(h:dW e)(ho:vf 0 e=true):(jM e).run=some (prE e):=Ks e ho h.2 (by have:=h.1; omega) (by have:=jF h; omega)
theorem dq{e:Expr}(h:dW e)(ho:vf 0 e=true):(prE e).length≤1200000:=by
 have:=lz (wu e) e 0 (Nat.le_refl _) ho h.2
 have:=h.1
 omega
structure FS(f:Form):Prop where
 n:f.1.length+f.2.1.length+f.2.2.1.length+f.2.2.2.1.length+f.2.2.2.2.1.length+f.2.2.2.2.2.1.length≤30
 s:∀ x∈f.1,x.1.length≤600
 p:∀ x∈f.2.1,x.1.length≤600∧xd 100 x.2.1
 g:∀ x∈f.2.2.1,x.1.length≤600∧x.2.1.length≤600
 d:∀ x∈f.2.2.2.1,x.1.length≤600
 r:∀ x∈f.2.2.2.2.1,x.1.length≤600∧x.2.2.1.length≤600∧dW x.2.2.2.1∧dW x.2.2.2.2.1
 c:∀ x∈f.2.2.2.2.2.1,x.1.length≤600∧dW x.2.2.2.1∧dW x.2.2.2.2.1
theorem z9F{f:Form}(hw:wf zG f)(hb:FB f)(hl:FL f):FS f:=by
 refine⟨hl.n,hl.s,fun x hx => ?_,hl.g,hl.d,fun x hx => ?_,fun x hx => ?_⟩
 ·obtain⟨a,b,c⟩:=hl.p x hx
  obtain⟨_,_,_,d,e⟩:=hb.p x hx
  exact⟨a,d,e,by omega,by omega⟩
 ·obtain⟨a,b,c,d⟩:=hl.r x hx
  have hwx:wf zn x:=hw.2.2.2.2.1 x hx
  exact⟨a,b,⟨c,ri _ hwx.2.2.2.1 (by omega)⟩,d,ri _ hwx.2.2.2.2.1 (by omega)⟩
 ·obtain⟨a,b,c⟩:=hl.c x hx
  have hwx:wf zm x:=hw.2.2.2.2.2.1 x hx
  exact⟨a,⟨b,ri _ hwx.2.2.2.1 (by omega)⟩,c,ri _ hwx.2.2.2.2.1 (by omega)⟩
def UU(x:Switch):Bool := !w6 x.1
def fT(x:Param):Bool := !w6 x.1||(!dP x.2.1||vb x.2.1)
def ns(s:zf):Bool:=zF s []||w6 s
def Jh(x:rV):Bool := !w6 x.1 || !ns x.2.1
def VM(n at_:Int)(x:Field):Bool:=decide (x.2.1<at_)||(decide (n≤x.2.1)||(!w6 x.1||(decide (x.2.2.2.1<(0:Int))||decide ((9:Int)<x.2.2.2.1))))
def VX(n at_:Int)(x:Check):Bool:=decide (x.2.1<at_)||(decide (n≤x.2.1)||(!w6 x.1||(decide (x.2.2.1<(0:Int))||(decide ((2:Int)<x.2.2.1)||(!vf 0 x.2.2.2.1 || !vf 0 x.2.2.2.2.1)))))
def QH(x:uT):Bool := !w6 x.1||(!ns x.2.2.1||(decide (x.2.1<(0:Int))||(decide ((3:Int)<x.2.1)||(!vf 0 x.2.2.2.1 || !vf 0 x.2.2.2.2.1))))
def XP{α:Type}(bad:Int→α→Bool)(nx:α→Int):Int→List α→Bool
 | _,[]=>true
 | at_,x::r => !bad at_ x&&XP bad nx (nx x) r
theorem I0{α:Type}(bad:Int→α→Bool)(nx:α→Int)(at_:Int)(x:α)(r:List α):XP bad nx at_ (x::r)=(!bad at_ x&&XP bad nx (nx x) r):=rfl
def a1(f:Form):Bool := !f.1.any UU
def a2(f:Form):Bool := !f.2.1.any fT
def a3(f:Form):Bool := !f.2.2.1.any Jh
def a4(f:Form):Bool:=XP (VM (f.2.2.1.length:Int)) (fun x=>x.2.1) 0 f.2.2.2.1
def a5(f:Form):Bool:=XP (VX (f.2.2.1.length:Int)) (fun x=>x.2.1) 0 f.2.2.2.2.2.1
def a6(f:Form):Bool := !f.2.2.2.2.1.any QH
theorem QS{α:Type}(l:List α)(d:α)(bad:α→Bool){r:Int→T (Int⊕(Unit⊕Bool))}
  (step:∀ (k:Nat) (x:α),k<l.length→nth l (k:Int) d=x→x∈l→(r (k:Int)).run=some (if bad x=true then .inr (.inr false)else .inl ((k+1:Nat):Int)))
  (done:(r (l.length:Int)).run=some (.inr (.inl ()))):(T.loop r 0).run=some (if l.any bad=true then .inr false else .inl ()):=by
 refine T.jt (r:=r) l d (fun(_:Unit) i=>i) (fun _ _=>True) (fun xs _=>if xs.any bad=true then .inr false else .inl ()) (fun k b x xs hk hx hm _ _ => ?_) (fun b _ => ?_) (b:=()) trivial
 ·rw[step k x hk hx hm,List.any_cons]
  cases bad x with
  | true=>exact .inr rfl
  | false=>exact .inl ⟨(),rfl,trivial,rfl⟩
 ·exact done
theorem tD{α:Type}(l:List α)(d:α)(bad:Int→α→Bool)(nx:α→Int){r:Int×Int→T ((Int×Int)⊕(Unit⊕Bool))}
  (hn:∀ at_ x,0≤at_→bad at_ x=false→0≤nx x)
  (step:∀ (k:Nat) (at_:Int) (x:α),k<l.length→nth l (k:Int) d=x→x∈l→0≤at_→(r (at_,(k:Int))).run=some (if bad at_ x=true then .inr (.inr false)else .inl (nx x,((k+1:Nat):Int))))
  (done:∀ at_,(r (at_,(l.length:Int))).run=some (.inr (.inl ()))):(T.loop r (0,0)).run=some (if XP bad nx 0 l=true then .inl ()else .inr false):=by
 refine T.jt (r:=r) l d (fun(b:Int) i=>(b,i)) (fun _ b=>0≤b) (fun xs b=>if XP bad nx b xs=true then .inl ()else .inr false) (fun k b x xs hk hx hm _ h0 => ?_) (fun b _ => ?_) (b:=0) (Int.le_refl 0)
 ·rw[step k b x hk hx hm h0]
  rw[I0]
  cases h:bad b x with
  | true=>exact .inr rfl
  | false=>exact .inl ⟨nx x,rfl,hn b x h0 h,rfl⟩
 ·exact done b
theorem mU{α:Type}{bad:Int→α→Bool}{nx:α→Int}:∀ {l:List α} {at_:Int},XP bad nx at_ l=true→∀ x∈l,∃ b,bad b x=false
 | [],_,_,x,hx=>by cases hx
 | y::r,at_,h,x,hx=>by
  unfold XP at h
  rw[Bool.and_eq_true,Bool.not_eq_true']at h
  rcases List.mem_cons.1 hx with rfl | hx
  ·exact⟨at_,h.1⟩
  ·exact mU h.2 x hx
theorem Nz{α:Type}{x:α}{b c:Bool}{t:T (Bool×α)}(h:t.run=some (c,x)):(T.ite b (.ret (true,x)) t).run=some (b||c,x):=by cases b; exact h; rfl
theorem orB{b c:Bool}{t:T Bool}(h:t.run=some c):(T.ite b (.ret true) t).run=some (b||c):=by cases b; exact h; rfl
theorem rI{α:Type}{x:α}{m:T Bool}{b c:Bool}{t:T (Bool×α)}(hm:m.run=some b)(h:t.run=some (c,x)):(T.bind m fun r=>T.ite (!r) (.ret (true,x)) t).run=some (!b||c,x):=by
 rw[z6 hm]; exact Nz h
theorem VC{m:T Bool}{b c:Bool}{t:T Bool}(hm:m.run=some b)(h:t.run=some c):(T.bind m fun r=>T.ite (!r) (.ret true) t).run=some (!b||c):=by
 rw[z6 hm]; exact orB h
theorem z6S{α:Type}{x:α}{m:T Bool}{b:Bool}(hm:m.run=some b):(T.bind m fun r=>.ret ((!r),x)).run=some (!b,x):=by
 rw[z6 hm]; rfl
theorem Tj{m:T Bool}{b:Bool}(hm:m.run=some b):(T.bind m fun r=>.ret (!r)).run=some (!b):=by
 rw[z6 hm]; rfl
abbrev Y2(a b:Int):Prop:=a≤b
abbrev ilt(a b:Int):Prop:=a<b
def Ow(x:Switch):zf:=[115,119,105,116,99,104,32]++x.1++(bif x.2.1 then[32,111,110,10]else[32,111,102,102,10])
def Fp(x:Param):zf:=[112,97,114,97,109,32]++x.1++[32]++ep (norm x.2.1)++[10]
def whS(s:zf):zf:=if s=[]then[]else[32,119,104,101,110,32]++s
def phS(x:rV):zf:=[112,97,103,101,32]++x.1++whS x.2.1++[10]
def fhS(x:Field):zf:=bif x.2.2.1 then[102,105,101,108,100,32]++x.1++[32,109,117,115,116]else[102,105,101,108,100,32]++x.1
def fdS(x:Field):zf:=if(0:Int)<x.2.2.2.1 then fhS x++([32,115,99,97,108,101,32]++pC x.2.2.2.1)++[10]else fhS x++[10]
def siS(l:Expr)(sign:zf)(r:Expr):zf:=[32,58,32]++prE l++[32]++sign++[32]++prE r++[10]
def Yh(n:Int):zf:=if n=1 then[60]else if n=2 then[60,61]else[61]
def ES(n:Int):zf:=if n=0 then[114,101,113,117,105,114,101,100]else if n=1 then[115,116,114,111,110,103]else if n=2 then[109,101,100,105,117,109]else[119,101,97,107]
def ckS(x:Check):zf:=[99,104,101,99,107,32]++x.1++siS x.2.2.2.1 (Yh x.2.2.1) x.2.2.2.2.1
def Iq(x:uT):zf:=[114,117,108,101,32]++ES x.2.1++[32]++x.1++whS x.2.2.1++siS x.2.2.2.1 [61] x.2.2.2.2.1
def Ol(i:Int)(x:Field):zf:=if(x.2.1==i)=true then fdS x else[]
def ckI(i:Int)(x:Check):zf:=if(x.2.1==i)=true then ckS x else[]
def Ia(f:Form)(i:Nat):zf:=phS (nth f.2.2.1 (i:Int) (zb qu))++f.2.2.2.1.flatMap (Ol i)++f.2.2.2.2.2.1.flatMap (ckI i)
def frS(f:Form):zf:=f.1.flatMap Ow++f.2.1.flatMap Fp++(List.range f.2.2.1.length).flatMap (Ia f)++f.2.2.2.2.1.flatMap Iq
structure Oo(f:Form):Prop extends FS f where
 d2:∀ x∈f.2.2.2.1,Y2 0 x.2.2.2.1∧Y2 x.2.2.2.1 9
 c2:∀ x∈f.2.2.2.2.2.1,Y2 0 x.2.2.1∧Y2 x.2.2.1 2∧vf 0 x.2.2.2.1=true∧vf 0 x.2.2.2.2.1=true
 r2:∀ x∈f.2.2.2.2.1,Y2 0 x.2.1∧Y2 x.2.1 3∧vf 0 x.2.2.2.1=true∧vf 0 x.2.2.2.2.1=true
theorem z4v{f:Form}(h:FS f)(h4:a4 f=true)(h5:a5 f=true)(h6:a6 f=true):Oo f:=by
 refine { toFS:=h,d2:=fun x hx => ?_,c2:=fun x hx => ?_,r2:=fun x hx => ?_ }
 ·obtain⟨b,hb⟩:=mU h4 x hx
  unfold VM at hb
  simp only[Bool.or_eq_false_iff,decide_eq_false_iff_not,Bool.not_eq_false']at hb
  obtain⟨_,_,_,q1,q2⟩:=hb
  exact⟨Int.not_lt.1 q1,Int.not_lt.1 q2⟩
 ·obtain⟨b,hb⟩:=mU h5 x hx
  unfold VX at hb
  simp only[Bool.or_eq_false_iff,decide_eq_false_iff_not,Bool.not_eq_false']at hb
  obtain⟨_,_,_,q1,q2,q3,q4⟩:=hb
  exact⟨Int.not_lt.1 q1,Int.not_lt.1 q2,q3,q4⟩
 ·unfold a6 at h6
  rw[Bool.not_eq_true',List.any_eq_false]at h6
  have hb:QH x=false:=by simpa using h6 x hx
  unfold QH at hb
  simp only[Bool.or_eq_false_iff,decide_eq_false_iff_not,Bool.not_eq_false']at hb
  obtain⟨_,_,q1,q2,q3,q4⟩:=hb
  exact⟨Int.not_lt.1 q1,Int.not_lt.1 q2,q3,q4⟩
theorem Xu(n:Int):(Yh n).length≤2:=by unfold Yh; split; decide; split<;>decide
theorem Kk(n:Int):(ES n).length≤8:=by unfold ES; split; decide; split; decide; split<;>decide
theorem tr(s:zf):(whS s).length≤s.length+6:=by unfold whS; split<;>simp
theorem Ui(x:Switch)(h:x.1.length≤600):(Ow x).length≤4000000:=by
 unfold Ow
 cases x.2.1<;>simp<;>omega
theorem U8(x:Param)(h:x.1.length≤600)(hr:xd 100 x.2.1):(Fp x).length≤4000000:=by
 have:=ZM x.2.1 ⟨hr.1,hr.2.1,by have:=hr.2.2.1; omega,by have:=hr.2.2.2; omega⟩
 unfold Fp
 simp only[List.length_append,List.length_cons,List.length_nil]
 omega
theorem Mo(x:rV)(h:x.1.length≤600)(h2:x.2.1.length≤600):(phS x).length≤4000000:=by
 have:=tr x.2.1
 unfold phS
 simp only[List.length_append,List.length_cons,List.length_nil]
 omega
theorem HL(x:Field):(fhS x).length≤x.1.length+11:=by
 unfold fhS
 cases x.2.2.1<;>simp
theorem GZ(x:Field)(h:x.1.length≤600)(h1:Y2 0 x.2.2.2.1)(h2:Y2 x.2.2.2.1 9):(fdS x).length≤4000000:=by
 have:=CT x.2.2.2.1 ⟨by unfold Y2 at *; omega,by unfold Y2 at *; omega⟩
 have:=HL x
 unfold fdS
 split<;>simp only[List.length_append,List.length_cons,List.length_nil]<;>omega
theorem U9{l r:Expr}(s:zf)(hs:s.length≤8)(h1:dW l)(h2:dW r)(o1:vf 0 l=true)(o2:vf 0 r=true):(siS l s r).length≤2500000:=by
 have:=dq h1 o1
 have:=dq h2 o2
 unfold siS
 simp only[List.length_append,List.length_cons,List.length_nil]
 omega
theorem IT(x:Check)(h:x.1.length≤600)(h1:dW x.2.2.2.1)(h2:dW x.2.2.2.2.1)(o1:vf 0 x.2.2.2.1=true)(o2:vf 0 x.2.2.2.2.1=true):(ckS x).length≤4000000:=by
 have:=U9 (Yh x.2.2.1) (by have:=Xu x.2.2.1; omega) h1 h2 o1 o2
 unfold ckS
 simp only[List.length_append,List.length_cons,List.length_nil]
 omega
theorem Uv(x:uT)(h:x.1.length≤600)(h':x.2.2.1.length≤600)(h1:dW x.2.2.2.1)(h2:dW x.2.2.2.2.1)(o1:vf 0 x.2.2.2.1=true)(o2:vf 0 x.2.2.2.2.1=true):(Iq x).length≤4000000:=by
 have:=U9 [61] (by decide) h1 h2 o1 o2
 have:=Kk x.2.1
 have:=tr x.2.2.1
 unfold Iq
 simp only[List.length_append,List.length_cons,List.length_nil]
 omega
theorem XC{f:Form}(h:Oo f)(i:Int):∀ x∈f.2.2.2.1,(Ol i x).length≤4000000:=fun x hx=>by
 unfold Ol
 split
 ·exact GZ x (h.d x hx) (h.d2 x hx).1 (h.d2 x hx).2
 ·exact Nat.zero_le _
theorem Ho{f:Form}(h:Oo f)(i:Int):∀ x∈f.2.2.2.2.2.1,(ckI i x).length≤4000000:=fun x hx=>by
 unfold ckI
 obtain⟨q1,q2,q3⟩:=h.c x hx
 obtain⟨_,_,o1,o2⟩:=h.c2 x hx
 split
 ·exact IT x q1 q2 q3 o1 o2
 ·exact Nat.zero_le _
theorem II{f:Form}(h:Oo f){i:Nat}(hi:i<f.2.2.1.length):(nth f.2.2.1 (i:Int) (zb qu)).1.length≤600∧(nth f.2.2.1 (i:Int) (zb qu)).2.1.length≤600 :=
 h.g _ (vi (by omega) (by omega))
theorem GU{f:Form}(h:Oo f){i:Nat}(hi:i<f.2.2.1.length):(Ia f i).length≤300000000:=by
 obtain⟨g1,g2⟩:=II h hi
 have h1:=Mo _ g1 g2
 have h2:=uV (Ol i) f.2.2.2.1 4000000 (XC h i)
 have h3:=uV (ckI i) f.2.2.2.2.2.1 4000000 (Ho h i)
 have:=h.n
 have:f.2.2.2.1.length*4000000≤30*4000000:=Nat.mul_le_mul_right _ (by omega)
 have:f.2.2.2.2.2.1.length*4000000≤30*4000000:=Nat.mul_le_mul_right _ (by omega)
 unfold Ia
 simp only[List.length_append]
 omega
theorem nk{α:Type}(l:List α)(d:α)(C B:Nat)(f:α→zf)(s:zf){r:zf×Int→T ((zf×Int)⊕zf)}
  (step:∀ (k:Nat) (b:zf) (x:α),k<l.length→nth l (k:Int) d=x→x∈l→b.length+C≤B→(r (b,(k:Int))).run=some (.inl (b++f x,((k+1:Nat):Int))))
  (done:∀ b,(r (b,(l.length:Int))).run=some (.inr b)) (hf:∀ x∈l,(f x).length≤C) (hB:s.length+l.length*C≤B):(T.loop r (s,0)).run=some (s++l.flatMap f):=by
 rw[← Wn]
 refine T.oF (r:=r) l d (fun(b:zf) i=>(b,i)) (fun k b=>b.length≤s.length+k*C) (fun b x=>b++f x) (fun b=>b) (fun k b x hk hx hm hI => ?_) (fun b hI=>done b) (b:=s) (by omega)
 have h4:=QK (c:=C) (show k+1≤l.length from hk)
 rw[Nat.add_mul,Nat.one_mul]at h4
 refine⟨step k b x hk hx hm (by omega),?_⟩
 have:=hf x hm
 rw[List.length_append,Nat.add_mul,Nat.one_mul]
 omega
theorem mS{α:Type}(l:List α)(d:α)(C B:Nat)(f:α→zf)(s:zf){r:Int×Unit×List Int→T ((Int×Unit×List Int)⊕(Unit×List Int))}
  (step:∀ (k:Nat) (b:zf) (x:α),k<l.length→nth l (k:Int) d=x→x∈l→b.length+C≤B→(r ((k:Int),(),bytesOf b)).run=some (.inl (((k+1:Nat):Int),(),bytesOf (b++f x))))
  (done:∀ b,(r ((l.length:Int),(),bytesOf b)).run=some (.inr ((),bytesOf b))) (hf:∀ x∈l,(f x).length≤C) (hB:s.length+l.length*C≤B):(T.loop r (0,(),bytesOf s)).run=some ((),bytesOf (s++l.flatMap f)):=by
 rw[← Wn]
 refine T.oF (r:=r) l d (fun(b:zf) i=>(i,(),bytesOf b)) (fun k b=>b.length≤s.length+k*C) (fun b x=>b++f x) (fun b=>((),bytesOf b)) (fun k b x hk hx hm hI => ?_) (fun b hI=>done b) (b:=s) (by omega)
 have h4:=QK (c:=C) (show k+1≤l.length from hk)
 rw[Nat.add_mul,Nat.one_mul]at h4
 refine⟨step k b x hk hx hm (by omega),?_⟩
 have:=hf x hm
 rw[List.length_append,Nat.add_mul,Nat.one_mul]
 omega
theorem Zo(l:List Switch)(g:Switch→T Bool)(p:Switch→Bool)(hg:∀ x∈l,(g x).run=some (p x))(hl:l.length≤1000000000):(qC l g).run=some (l.any p):=by
 have key:(wT l g (l.length:Int) 0).run=some (if PL.vE p 0 l = -1 then .inl ()else .inr (PL.vE p 0 l)):=by
  refine PL.yS l (zb zV) p (fun i h hi hp => ?_) (fun i h hi hp => ?_) (fun i hi => ?_)
  ·have hm:=vi (d:=zb zV) h hi
   simp(disch:=omega) [qf,hi,hg _ hm,hp]
  ·have hm:=vi (d:=zb zV) h hi
   simp(disch:=omega) [qf,hi,hg _ hm,hp]
  ·simp[qf,hi]
 have hx:(ql l g).run=some (PL.vE p 0 l):=by
  unfold ql
  rw[z6 key]
  split<;>rename_i h<;>simp[h]
 unfold qC
 rw[z6 hx,z7,PL.eU _ _ _ (Int.le_refl 0)]
theorem Xt(l:List Param)(g:Param→T Bool)(p:Param→Bool)(hg:∀ x∈l,(g x).run=some (p x))(hl:l.length≤1000000000):(qE l g).run=some (l.any p):=by
 have key:(je l g (l.length:Int) 0).run=some (if PL.vE p 0 l = -1 then .inl ()else .inr (PL.vE p 0 l)):=by
  refine PL.yS l (zb zX) p (fun i h hi hp => ?_) (fun i h hi hp => ?_) (fun i hi => ?_)
  ·have hm:=vi (d:=zb zX) h hi
   simp(disch:=omega) [qS,hi,hg _ hm,hp]
  ·have hm:=vi (d:=zb zX) h hi
   simp(disch:=omega) [qS,hi,hg _ hm,hp]
  ·simp[qS,hi]
 have hx:(xQ l g).run=some (PL.vE p 0 l):=by
  unfold xQ
  rw[z6 key]
  split<;>rename_i h<;>simp[h]
 unfold qE
 rw[z6 hx,z7,PL.eU _ _ _ (Int.le_refl 0)]
theorem CW(l:List rV)(g:rV→T Bool)(p:rV→Bool)(hg:∀ x∈l,(g x).run=some (p x))(hl:l.length≤1000000000):(xF l g).run=some (l.any p):=by
 have key:(jy l g (l.length:Int) 0).run=some (if PL.vE p 0 l = -1 then .inl ()else .inr (PL.vE p 0 l)):=by
  refine PL.yS l (zb qu) p (fun i h hi hp => ?_) (fun i h hi hp => ?_) (fun i hi => ?_)
  ·have hm:=vi (d:=zb qu) h hi
   simp(disch:=omega) [xB,hi,hg _ hm,hp]
  ·have hm:=vi (d:=zb qu) h hi
   simp(disch:=omega) [xB,hi,hg _ hm,hp]
  ·simp[xB,hi]
 have hx:(wM l g).run=some (PL.vE p 0 l):=by
  unfold wM
  rw[z6 key]
  split<;>rename_i h<;>simp[h]
 unfold xF
 rw[z6 hx,z7,PL.eU _ _ _ (Int.le_refl 0)]
theorem DB(l:List uT)(g:uT→T Bool)(p:uT→Bool)(hg:∀ x∈l,(g x).run=some (p x))(hl:l.length≤1000000000):(xy l g).run=some (l.any p):=by
 have key:(jz l g (l.length:Int) 0).run=some (if PL.vE p 0 l = -1 then .inl ()else .inr (PL.vE p 0 l)):=by
  refine PL.yS l (zb zn) p (fun i h hi hp => ?_) (fun i h hi hp => ?_) (fun i hi => ?_)
  ·have hm:=vi (d:=zb zn) h hi
   simp(disch:=omega) [xC,hi,hg _ hm,hp]
  ·have hm:=vi (d:=zb zn) h hi
   simp(disch:=omega) [xC,hi,hg _ hm,hp]
  ·simp[xC,hi]
 have hx:(wN l g).run=some (PL.vE p 0 l):=by
  unfold wN
  rw[z6 key]
  split<;>rename_i h<;>simp[h]
 unfold xy
 rw[z6 hx,z7,PL.eU _ _ _ (Int.le_refl 0)]
theorem JJ(s:zf):(y4 s).run=some (ns s):=by
 unfold y4 ns
 cases zF s []with
 | true=>rfl
 | false=>rw[zr,z6 (dw s)]; rfl
theorem NC(f:Form)(h:FS f):(lh f).run=some (a1 f&&(a2 f&&a3 f)):=by
 have hn:=h.n
 have h1:(qC f.1 (fun z0=>vz z0)).run=some (f.1.any UU):=Zo f.1 _ UU (fun x _=>by
  unfold vz UU
  exact Tj (dw x.1)) (by omega)
 have h2:(qE f.2.1 (fun z0=>vC z0)).run=some (f.2.1.any fT):=Xt f.2.1 _ fT (fun x hx=>by
  have hr:=(h.p x hx).2
  have hr:xd 100000000 x.2.1:=⟨hr.1,hr.2.1,by have:=hr.2.2.1; omega,by have:=hr.2.2.2; omega⟩
  unfold vC fT
  exact VC (dw x.1) (VC (nY _ hr) (by rw[z6 (yq _ hr)]; rfl))) (by omega)
 have h3:(xF f.2.2.1 (fun z0=>vG z0)).run=some (f.2.2.1.any Jh):=CW f.2.2.1 _ Jh (fun x hx=>by
  unfold vG Jh
  exact VC (dw x.1) (Tj (JJ _))) (by omega)
 unfold lh a1 a2 a3
 rw[z6 h1]
 cases f.1.any UU with
 | true=>rfl
 | false =>
  rw[za (by rfl),z6 h2]
  cases f.2.1.any fT with
  | true=>rfl
  | false=>rw[za (by rfl),z6 h3,z7]; rfl
theorem Js(pg at_ n:Int)(h:0≤at_):(b8 pg at_ n).run=some (!(decide (pg<at_)||decide (n≤pg))):=by
 unfold b8
 have e1:w7 at_ 0=at_:=by unfold w7; split<;>omega
 rw[e1,z7]
 by_cases q1:pg<at_<;>by_cases q2:n≤pg
 ·rw[decide_eq_true q1,decide_eq_false (by omega:¬ at_≤pg)]; rfl
 ·rw[decide_eq_true q1,decide_eq_false (by omega:¬ at_≤pg)]; rfl
 ·rw[decide_eq_true q2,decide_eq_false (by omega:¬ pg<n),Bool.and_false,Bool.or_true]; rfl
 ·rw[decide_eq_false q1,decide_eq_false q2,decide_eq_true (by omega:at_≤pg),decide_eq_true (by omega:pg<n)]; rfl
theorem Wo(f:Form)(h:FS f):(eR f).run=some (a4 f):=by
 have hn:=h.n
 have key:(p9 f f.2.2.2.1 (f.2.2.2.1.length:Int) (0,0)).run=some (if a4 f=true then .inl ()else .inr false):=by
  refine tD (r:=ji f f.2.2.2.1 (f.2.2.2.1.length:Int)) f.2.2.2.1 (zb q8) (VM (f.2.2.1.length:Int)) (fun x=>x.2.1) (fun at_ x h0 hb => ?_) (fun k at_ x hk hx hm h0 => ?_) (fun at_ => ?_)
  ·unfold VM at hb
   rw[Bool.or_eq_false_iff,decide_eq_false_iff_not]at hb
   exact Int.le_trans h0 (Int.not_lt.1 hb.1)
  ·unfold ji
   dsimp only
   rw[za (qL hk),zc (zo hk),hx]
   refine(z6 (a:=(VM (f.2.2.1.length:Int) at_ x,x)) ?_ _).trans ?_
   ·refine(rI (dw x.1) (rI (Js x.2.1 at_ _ h0) (Nz (z7 _)))).trans ?_
    unfold VM
    cases w6 x.1<;>cases decide (x.2.1<at_)<;>cases decide ((f.2.2.1.length:Int)≤x.2.1)<;>cases decide (x.2.2.2.1<(0:Int))<;>cases decide ((9:Int)<x.2.2.2.1)<;>rfl
   ·dsimp only
    cases VM (f.2.2.1.length:Int) at_ x with
    | true=>rfl
    | false=>rw[zr,z7,vr k _ hk (by omega)]; rfl
  ·unfold ji
   dsimp only
   rw[z8 (xi _),z7]
 unfold eR
 rw[z6 key]
 cases a4 f<;>rfl
theorem S5(x:uT)(h1:dW x.2.2.2.1)(h2:dW x.2.2.2.2.1):(wy x).run=some (QH x):=by
 unfold wy
 have e:(T.bind (vY) fun r2=>T.ite (decide ((Nat.cast (List.length r2):Int)≤x.2.1)) (.ret true) (T.bind (y4 x.2.2.1) fun r3=>T.ite (!r3) (.ret true) (T.bind (uA x.2.2.2.1) fun r4=>T.ite (!r4) (.ret true) (T.bind (uA x.2.2.2.2.1) fun r5=>.ret (!r5))))).run
   = some (decide ((4:Int)≤x.2.1)||(!ns x.2.2.1||(!vf 0 x.2.2.2.1 || !vf 0 x.2.2.2.2.1))):=by
  unfold vY
  exact orB (VC (JJ _) (VC (Ub h1) (Tj (Ub h2))))
 refine(VC (dw x.1) (orB e)).trans ?_
 unfold QH
 rw[show decide ((4:Int)≤x.2.1)=decide ((3:Int)<x.2.1)from rfl]
 cases w6 x.1<;>cases ns x.2.2.1<;>cases decide ((3:Int)<x.2.1)<;>cases decide (x.2.1<(0:Int))<;>rfl
theorem W7(f:Form)(h:FS f):(eW f).run=some (a5 f&&a6 f):=by
 have hn:=h.n
 have key:(oZ f f.2.2.2.2.2.1 (f.2.2.2.2.2.1.length:Int) (0,0)).run=some (if a5 f=true then .inl ()else .inr false):=by
  refine tD (r:=jd f f.2.2.2.2.2.1 (f.2.2.2.2.2.1.length:Int)) f.2.2.2.2.2.1 (zb zm) (VX (f.2.2.1.length:Int)) (fun x=>x.2.1) (fun at_ x h0 hb => ?_) (fun k at_ x hk hx hm h0 => ?_) (fun at_ => ?_)
  ·unfold VX at hb
   rw[Bool.or_eq_false_iff,decide_eq_false_iff_not]at hb
   exact Int.le_trans h0 (Int.not_lt.1 hb.1)
  ·obtain⟨_,x1,x2⟩:=h.c x hm
   unfold jd
   dsimp only
   rw[za (qL hk),zc (zo hk),hx]
   simp only[c8]
   refine(z6 (a:=(VX (f.2.2.1.length:Int) at_ x,x)) ?_ _).trans ?_
   ·have e:(T.bind (uI) fun r2=>T.ite (decide ((Nat.cast (List.length r2):Int)≤x.2.2.1)) (.ret (true,x)) (T.bind (uA x.2.2.2.1) fun r3=>T.ite (!r3) (.ret (true,x)) (T.bind (uA x.2.2.2.2.1) fun r4=>.ret ((!r4),x)))).run
      = some (decide ((3:Int)≤x.2.2.1)||(!vf 0 x.2.2.2.1 || !vf 0 x.2.2.2.2.1),x):=by
     unfold uI
     exact Nz (rI (Ub x1) (z6S (Ub x2)))
    refine(rI (dw x.1) (rI (Js x.2.1 at_ _ h0) (Nz e))).trans ?_
    unfold VX
    rw[show decide ((3:Int)≤x.2.2.1)=decide ((2:Int)<x.2.2.1)from rfl]
    cases w6 x.1<;>cases decide (x.2.1<at_)<;>cases decide ((f.2.2.1.length:Int)≤x.2.1)<;>cases decide (x.2.2.1<(0:Int))<;>cases decide ((2:Int)<x.2.2.1)<;>rfl
   ·dsimp only
    cases VX (f.2.2.1.length:Int) at_ x with
    | true=>rfl
    | false=>rw[zr,z7,vr k _ hk (by omega)]; rfl
  ·unfold jd
   dsimp only
   rw[z8 (xi _),z7]
 have h3:(xy f.2.2.2.2.1 (fun z0=>wy z0)).run=some (f.2.2.2.2.1.any QH):=DB f.2.2.2.2.1 _ QH (fun x hx=>by
  obtain⟨_,_,x1,x2⟩:=h.r x hx
  exact S5 x x1 x2) (by omega)
 unfold eW
 rw[z6 key]
 cases a5 f with
 | false=>rfl
 | true =>
  rw[if_pos rfl,Sum.elim_inl,z6 h3,z7]
  rfl
theorem Kv(s:zf)(h:s.length≤600):(fG s).run=some (whS s):=by
 unfold fG whS
 cases s with
 | nil=>rfl
 | cons b r=>rw[z8 (by rfl),zD _ (by simp only[List.length_cons,List.length_nil]at *; omega),z7,if_neg (by simp)]; rfl
theorem NI(x:Field)(h:x.1.length≤600)(h1:Y2 0 x.2.2.2.1)(h2:Y2 x.2.2.2.1 9):(iV x).run=some (fdS x):=by
 have hi:=Pk x.2.2.2.1 ⟨by unfold Y2 at *; omega,by unfold Y2 at *; omega⟩
 have hl:=CT x.2.2.2.1 ⟨by unfold Y2 at *; omega,by unfold Y2 at *; omega⟩
 obtain⟨nm,pg,mu,sc,u⟩:=x
 have h:nm.length≤600:=h
 dsimp only at hi hl
 unfold iV fdS
 dsimp only
 have e:(bif mu then(cat (cat ([102,105,101,108,100,32]:zf) nm) ([32,109,117,115,116]:zf))else(cat ([102,105,101,108,100,32]:zf) nm))=fhS (nm,pg,mu,sc,u):=rfl
 have hf:(fhS (nm,pg,mu,sc,u)).length≤nm.length+11:=HL _
 rw[zD _ (by simp only[List.length_cons,List.length_nil]; omega),zc (fun _=>by simp only[qg,List.length_cons,List.length_nil]; omega),e]
 by_cases hs:ilt 0 sc
 ·rw[za (decide_eq_true hs),z6 hi,zD _ (by simp only[List.length_cons,List.length_nil]; omega),zD _ (by simp only[qg,List.length_cons,List.length_nil]; omega),zD _ (by simp only[qg,List.length_cons,List.length_nil]; omega),z7,if_pos hs]
  rfl
 ·rw[z8 (decide_eq_false hs),zD _ (by simp only[List.length_cons,List.length_nil]; omega),z7,if_neg hs]
  rfl
theorem YF(l r:Expr)(s:zf)(hs:s.length≤8)(h1:dW l)(h2:dW r)(o1:vf 0 l=true)(o2:vf 0 r=true):(dG l s r).run=some (siS l s r):=by
 have l1:=dq h1 o1
 have l2:=dq h2 o2
 unfold dG
 rw[z6 (M9 h1 o1)]
 rw[zD _ (by simp only[List.length_cons,List.length_nil]; omega),zD _ (by simp only[qg,List.length_cons,List.length_nil]; omega),zD _ (by simp only[qg,List.length_cons,List.length_nil]; omega),zD _ (by simp only[qg,List.length_cons,List.length_nil]; omega)]
 rw[z6 (M9 h2 o2)]
 rw[zD _ (by simp only[qg,List.length_cons,List.length_nil]; omega),zD _ (by simp only[qg,List.length_cons,List.length_nil]; omega),z7]
 rfl
theorem z1F(n:Int)(h:0≤n)(h2:n≤2):nth ([([61]:zf),([60]:zf),([60,61]:zf)]:List zf) n (zb .str)=Yh n:=by
 have:n=0∨n=1∨n=2:=by omega
 rcases this with rfl | rfl | rfl<;>rfl
theorem z25(n:Int)(h:0≤n)(h2:n≤3):nth ([([114,101,113,117,105,114,101,100]:zf),([115,116,114,111,110,103]:zf),([109,101,100,105,117,109]:zf),([119,101,97,107]:zf)]:List zf) n (zb .str)=ES n:=by
 have:n=0∨n=1∨n=2∨n=3:=by omega
 rcases this with rfl | rfl | rfl | rfl<;>rfl
theorem RF(f:Form)(h:Oo f)(i:Nat)(hi:i<f.2.2.1.length)(b:zf)(hb:b.length≤100000000000):(eJ f (i:Int) () (bytesOf b)).run=some ((),bytesOf (b++Ia f i)):=by
 have hn:=h.n
 obtain⟨g1,g2⟩:=II h hi
 have hp:=Mo _ g1 g2
 have hw:=tr (nth f.2.2.1 (i:Int) (zb qu)).2.1
 have k1:∀ s:zf,s.length≤200000000000→(pc (i:Int) f f.2.2.2.1 (f.2.2.2.1.length:Int) (0,(),bytesOf s)).run=some ((),bytesOf (s++f.2.2.2.1.flatMap (Ol i))):=fun s hs=>by
  refine mS (r:=j7 (i:Int) f f.2.2.2.1 (f.2.2.2.1.length:Int)) f.2.2.2.1 (zb q8) 4000000 400000000000 (Ol i) s (fun k b x hk hx hm hb => ?_) (fun b => ?_) (XC h i) (by omega)
  ·unfold j7 Ol
   dsimp only
   rw[za (qL hk),zc (zo hk),hx]
   cases hc:x.2.1==(i:Int)with
   | true =>
    have fl:=GZ x (h.d x hm) (h.d2 x hm).1 (h.d2 x hm).2
    rw[zA,z6 (NI x (h.d x hm) (h.d2 x hm).1 (h.d2 x hm).2),ze _ rfl rfl rfl,T.zk,z6 (vT (fdS x) b (by omega))]
    dsimp only
    rw[ze _ rfl rfl rfl,T.zk,z7,vr k _ hk (by omega),if_pos rfl]
   | false =>
    rw[zr,ze _ rfl rfl rfl,T.zk,z7,vr k _ hk (by omega),if_neg (by decide),List.append_nil]
  ·unfold j7
   dsimp only
   rw[z8 (xi _),ze _ rfl rfl rfl,T.zk,z7]
 have k2:∀ s:zf,s.length≤400000000000→(oU (i:Int) f.2.2.2.2.2.1 (f.2.2.2.2.2.1.length:Int) (0,(),bytesOf s)).run=some ((),bytesOf (s++f.2.2.2.2.2.1.flatMap (ckI i))):=fun s hs=>by
  refine mS (r:=jj (i:Int) f.2.2.2.2.2.1 (f.2.2.2.2.2.1.length:Int)) f.2.2.2.2.2.1 (zb zm) 4000000 800000000000 (ckI i) s (fun k b x hk hx hm hb => ?_) (fun b => ?_) (Ho h i) (by omega)
  ·unfold jj ckI
   dsimp only
   rw[za (qL hk),zc (zo hk),hx]
   cases hc:x.2.1==(i:Int)with
   | true =>
    obtain⟨q1,q2,q3⟩:=h.c x hm
    obtain⟨c1,c2,o1,o2⟩:=h.c2 x hm
    have cl:=IT x q1 q2 q3 o1 o2
    have hs:=YF x.2.2.2.1 x.2.2.2.2.1 (Yh x.2.2.1) (by have:=Xu x.2.2.1; omega) q2 q3 o1 o2
    have sl:=U9 (Yh x.2.2.1) (by have:=Xu x.2.2.1; omega) q2 q3 o1 o2
    unfold uI
    rw[zA,zD _ (by simp only[List.length_cons,List.length_nil]; omega)]
    simp only[T.bind,c8]
    have c3:x.2.2.1<((3:Nat):Int):=Int.lt_of_le_of_lt c2 (by decide)
    rw[zc ⟨c1,c3⟩,z1F _ c1 c2,z6 hs,zD _ (by simp only[qg,List.length_cons,List.length_nil]; omega),ze _ rfl rfl rfl,zM]
    have e:cat (cat ([99,104,101,99,107,32]:zf) x.1) (siS x.2.2.2.1 (Yh x.2.2.1) x.2.2.2.2.1)=ckS x:=rfl
    rw[e,z6 (vT (ckS x) b (by omega))]
    dsimp only
    rw[ze _ rfl rfl rfl,zM,z7,vr k _ hk (by omega),if_pos trivial]
   | false =>
    rw[zr,ze _ rfl rfl rfl,T.zk,z7,vr k _ hk (by omega),if_neg (by decide),List.append_nil]
  ·unfold jj
   dsimp only
   rw[z8 (xi _),ze _ rfl rfl rfl,T.zk,z7]
 have l2:=uV (Ol i) f.2.2.2.1 4000000 (XC h i)
 have:f.2.2.2.1.length*4000000≤30*4000000:=Nat.mul_le_mul_right _ (by omega)
 unfold eJ
 rw[zc (zo hi),zD _ (by simp only[List.length_cons,List.length_nil]; omega),zc (zo hi),z6 (Kv _ g2),zD _ (by simp only[qg,List.length_cons,List.length_nil]; omega),zD _ (by simp only[qg,List.length_cons,List.length_nil]; omega),ze _ rfl rfl rfl,T.zk]
 have e:cat (cat (cat ([112,97,103,101,32]:zf) (nth f.2.2.1 (i:Int) (zb qu)).1) (whS (nth f.2.2.1 (i:Int) (zb qu)).2.1)) ([10]:zf)=phS (nth f.2.2.1 (i:Int) (zb qu)):=rfl
 rw[e,z6 (vT _ b (by omega))]
 dsimp only
 rw[ze _ rfl rfl rfl,T.zk,z6 (k1 _ (by rw[List.length_append]; omega))]
 dsimp only
 rw[ze _ rfl rfl rfl,T.zk,z6 (k2 _ (by rw[List.length_append,List.length_append]; omega))]
 dsimp only
 rw[ze _ rfl rfl rfl,T.zk,z7]
 unfold Ia
 simp only[List.append_assoc]
theorem Gj(n k:Nat)(h:k<n):nth (List.range n) (k:Int) 0=k:=by
 rw[qP (by rw[List.length_range]; exact h),List.getElem_range]
theorem D6{f:Form}(h:Oo f):(f.1.flatMap Ow).length≤f.1.length*4000000:=uV Ow f.1 4000000 fun x hx=>Ui x (h.s x hx)
theorem Ct{f:Form}(h:Oo f):(f.2.1.flatMap Fp).length≤f.2.1.length*4000000:=uV Fp f.2.1 4000000 fun x hx=>U8 x (h.p x hx).1 (h.p x hx).2
theorem Cz{f:Form}(h:Oo f):((List.range f.2.2.1.length).flatMap (Ia f)).length≤f.2.2.1.length*300000000:=by
 have:=uV (Ia f) (List.range f.2.2.1.length) 300000000 (fun x hx=>GU h (List.mem_range.1 hx))
 rwa [List.length_range]at this
theorem Dd{f:Form}(h:Oo f):(f.2.2.2.2.1.flatMap Iq).length≤f.2.2.2.2.1.length*4000000:=uV Iq f.2.2.2.2.1 4000000 fun x hx=>by
 obtain⟨q1,q2,q3,q4⟩:=h.r x hx
 obtain⟨_,_,o1,o2⟩:=h.r2 x hx
 exact Uv x q1 q2 q3 q4 o1 o2
theorem VI(f:Form)(h:Oo f):(lJ f).run=some (frS f):=by
 have hn:=h.n
 have m1:=D6 h
 have m2:=Ct h
 have m3:=Cz h
 have m4:=Dd h
 have k1:(rD f f.1 (f.1.length:Int) (0,(),bytesOf [])).run=some ((),bytesOf ([]++f.1.flatMap Ow)):=by
  refine mS (r:=jZ f f.1 (f.1.length:Int)) f.1 (zb zV) 4000000 100000000000 Ow [] (fun k b x hk hx hm hb => ?_) (fun b => ?_) (fun x hx=>Ui x (h.s x hx)) (by simp only[List.length_nil]; omega)
  ·have q:=h.s x hm
   have sl:=Ui x q
   have bl:(bif x.2.1 then([32,111,110,10]:zf)else[32,111,102,102,10]).length≤5:=by cases x.2.1<;>decide
   unfold jZ
   dsimp only
   rw[za (qL hk),zc (zo hk),hx,zD _ (by simp only[List.length_cons,List.length_nil]; omega),zD _ (by simp only[qg,List.length_cons,List.length_nil]; omega),ze _ rfl rfl rfl,T.zk]
   have e:cat (cat ([115,119,105,116,99,104,32]:zf) x.1) (bif x.2.1 then([32,111,110,10]:zf)else([32,111,102,102,10]:zf))=Ow x:=rfl
   rw[e,z6 (vT (Ow x) b (by omega))]
   dsimp only
   rw[ze _ rfl rfl rfl,T.zk,z7,vr k _ hk (by omega)]
  ·unfold jZ
   dsimp only
   rw[z8 (xi _),ze _ rfl rfl rfl,T.zk,z7]
 have k2:∀ s:zf,s.length≤1000000000→(rk f f.2.1 (f.2.1.length:Int) (0,(),bytesOf s)).run=some ((),bytesOf (s++f.2.1.flatMap Fp)):=fun s hs=>by
  refine mS (r:=kI f f.2.1 (f.2.1.length:Int)) f.2.1 (zb zX) 4000000 100000000000 Fp s (fun k b x hk hx hm hb => ?_) (fun b => ?_) (fun x hx=>U8 x (h.p x hx).1 (h.p x hx).2) (by omega)
  ·obtain⟨q,hr⟩:=h.p x hm
   have hr:xd 1000 x.2.1:=⟨hr.1,hr.2.1,by have:=hr.2.2.1; omega,by have:=hr.2.2.2; omega⟩
   have sl:=U8 x q (h.p x hm).2
   have hd:(mH (x.2.1.1,(x.2.1.2.1,(x.2.1.2.2.1,())))).run=some (ep (norm x.2.1)):=Yi x.2.1 hr
   have pl:=ZM _ hr
   unfold kI
   dsimp only
   rw[za (qL hk),zc (zo hk),hx,zD _ (by simp only[List.length_cons,List.length_nil]; omega),zD _ (by simp only[qg,List.length_cons,List.length_nil]; omega),z6 hd,zD _ (by simp only[qg,List.length_cons,List.length_nil]; omega),zD _ (by simp only[qg,List.length_cons,List.length_nil]; omega),ze _ rfl rfl rfl,T.zk]
   have e:cat (cat (cat (cat ([112,97,114,97,109,32]:zf) x.1) ([32]:zf)) (ep (norm x.2.1))) ([10]:zf)=Fp x:=rfl
   rw[e,z6 (vT (Fp x) b (by omega))]
   dsimp only
   rw[ze _ rfl rfl rfl,T.zk,z7,vr k _ hk (by omega)]
  ·unfold kI
   dsimp only
   rw[z8 (xi _),ze _ rfl rfl rfl,T.zk,z7]
 have k3:∀ s:zf,s.length≤2000000000→(pO f (f.2.2.1.length:Int) (0,(),bytesOf s)).run=some ((),bytesOf (s++(List.range f.2.2.1.length).flatMap (Ia f))):=fun s hs=>by
  refine mS (r:=kg f (f.2.2.1.length:Int)) (List.range f.2.2.1.length) 0 300000000 100000000000 (Ia f) s (fun k b x hk hx hm hb => ?_) (fun b => ?_) (fun x hx=>GU h (List.mem_range.1 hx)) (by rw[List.length_range]; omega)
  ·rw[List.length_range]at hk
   rw[Gj _ _ hk]at hx
   subst hx
   unfold kg
   dsimp only
   rw[za (qL hk),ze _ rfl rfl rfl,T.zk,z6 (RF f h k hk b (by omega))]
   dsimp only
   rw[ze _ rfl rfl rfl,T.zk,z7,vr k _ hk (by omega)]
  ·unfold kg
   dsimp only
   rw[List.length_range,z8 (xi _),ze _ rfl rfl rfl,T.zk,z7]
 have k4:∀ s:zf,s.length≤20000000000→(pX f.2.2.2.2.1 (f.2.2.2.2.1.length:Int) (0,(),bytesOf s)).run=some ((),bytesOf (s++f.2.2.2.2.1.flatMap Iq)):=fun s hs=>by
  refine mS (r:=jN f.2.2.2.2.1 (f.2.2.2.2.1.length:Int)) f.2.2.2.2.1 (zb zn) 4000000 100000000000 Iq s (fun k b x hk hx hm hb => ?_) (fun b => ?_) (fun x hx=>by
   obtain⟨q1,q2,q3,q4⟩:=h.r x hx
   obtain⟨_,_,o1,o2⟩:=h.r2 x hx
   exact Uv x q1 q2 q3 q4 o1 o2) (by omega)
  ·obtain⟨q1,q2,q3,q4⟩:=h.r x hm
   obtain⟨c1,c2,o1,o2⟩:=h.r2 x hm
   have rl:=Uv x q1 q2 q3 q4 o1 o2
   have hs:=YF x.2.2.2.1 x.2.2.2.2.1 [61] (by decide) q3 q4 o1 o2
   have sl:=U9 [61] (by decide) q3 q4 o1 o2
   have tl:=Kk x.2.1
   have wl:=tr x.2.2.1
   have c3:x.2.1<((4:Nat):Int):=Int.lt_of_le_of_lt c2 (by decide)
   unfold jN vY
   dsimp only
   rw[za (qL hk),zc (zo hk),hx]
   simp only[T.bind,c8]
   rw[zc ⟨c1,c3⟩,z25 _ c1 c2,zD _ (by simp only[List.length_cons,List.length_nil]; omega),zD _ (by simp only[qg,List.length_cons,List.length_nil]; omega),zD _ (by simp only[qg,List.length_cons,List.length_nil]; omega),z6 (Kv _ q2),
    zD _ (by simp only[qg,List.length_cons,List.length_nil]; omega),z6 hs,zD _ (by simp only[qg,List.length_cons,List.length_nil]; omega),ze _ rfl rfl rfl,zM]
   have e:cat (cat (cat (cat (cat ([114,117,108,101,32]:zf) (ES x.2.1)) ([32]:zf)) x.1) (whS x.2.2.1)) (siS x.2.2.2.1 [61] x.2.2.2.2.1)=Iq x:=rfl
   rw[e,z6 (vT (Iq x) b (by omega))]
   dsimp only
   rw[ze _ rfl rfl rfl,zM,z7,vr k _ hk (by omega)]
  ·unfold jN
   dsimp only
   rw[z8 (xi _),ze _ rfl rfl rfl,T.zk,z7]
 unfold lJ
 rw[ze _ rfl rfl rfl,T.zk]
 refine(z6 k1 _).trans ?_
 dsimp only
 rw[List.nil_append,ze _ rfl rfl rfl,T.zk,z6 (k2 _ (by omega))]
 dsimp only
 rw[ze _ rfl rfl rfl,T.zk,z6 (k3 _ (by rw[List.length_append]; omega))]
 dsimp only
 rw[ze _ rfl rfl rfl,T.zk,z6 (k4 _ (by simp only[List.length_append]; omega))]
 dsimp only
 rw[ze _ rfl rfl rfl,T.zk,z6 (Yd _ (by simp only[List.length_append]; omega))]
 rfl
def pH(f:Form):Bool:=a1 f&&(a2 f&&(a3 f&&(a4 f&&(a5 f&&(a6 f&&decide (((frS f).length:Int)≤16384))))))
theorem GL(f:Form)(h:FS f):(QO f).run=some (pH f):=by
 unfold QO pH
 rw[z6 (NC f h)]
 cases a1 f with
 | false=>rfl
 | true =>
 cases a2 f with
 | false=>rfl
 | true =>
 cases a3 f with
 | false=>rfl
 | true =>
 rw[za (by rfl),z6 (Wo f h)]
 cases h4:a4 f with
 | false=>rfl
 | true =>
 rw[za (by rfl),z6 (W7 f h)]
 cases h5:a5 f with
 | false=>rfl
 | true =>
 cases h6:a6 f with
 | false=>rfl
 | true =>
 rw[za (by rfl),z6 (VI f (z4v h h4 h5 h6)),z7]
 rfl
theorem z5U{r:Rat}(hr:xd 100 r):xd 100000000 r:=⟨hr.1,hr.2.1,by have:=hr.2.2.1; omega,by have:=hr.2.2.2; omega⟩
theorem z1U{r:Rat}(hr:xd 100 r):xd 1000 r:=⟨hr.1,hr.2.1,by have:=hr.2.2.1; omega,by have:=hr.2.2.2; omega⟩
theorem YH(s:zf):(fR s).run=some (ns s):=by
 unfold fR ns
 cases zF s []with
 | true=>rfl
 | false=>rw[zr,z6 (vn s)]; rfl
theorem KG(f:Form)(h:FS f):(nq f).run=some (a4 f&&a5 f):=by
 have hn:=h.n
 have k1:(Zv f (0,0)).run=some (if a4 f=true then .inl ()else .inr false):=by
  refine tD (r:=yQ f) f.2.2.2.1 (zb q8) (VM (f.2.2.1.length:Int)) (fun x=>x.2.1) (fun at_ x h0 hb => ?_) (fun k at_ x hk hx hm h0 => ?_) (fun at_ => ?_)
  ·unfold VM at hb
   rw[Bool.or_eq_false_iff,decide_eq_false_iff_not]at hb
   exact Int.le_trans h0 (Int.not_lt.1 hb.1)
  ·unfold yQ
   dsimp only
   rw[za (qL hk),zc (zo hk),hx]
   refine(z6 (a:=(VM (f.2.2.1.length:Int) at_ x,x)) ?_ _).trans ?_
   ·exact Nz (Nz (rI (vn x.1) (Nz (z7 _))))
   ·dsimp only
    cases VM (f.2.2.1.length:Int) at_ x with
    | true=>rfl
    | false=>rw[zr,z7,vr k _ hk (by omega)]; rfl
  ·unfold yQ
   dsimp only
   rw[z8 (xi _),z7]
 have k2:(Zs f (0,0)).run=some (if a5 f=true then .inl ()else .inr false):=by
  refine tD (r:=yn f) f.2.2.2.2.2.1 (zb zm) (VX (f.2.2.1.length:Int)) (fun x=>x.2.1) (fun at_ x h0 hb => ?_) (fun k at_ x hk hx hm h0 => ?_) (fun at_ => ?_)
  ·unfold VX at hb
   rw[Bool.or_eq_false_iff,decide_eq_false_iff_not]at hb
   exact Int.le_trans h0 (Int.not_lt.1 hb.1)
  ·obtain⟨_,x1,x2⟩:=h.c x hm
   unfold yn
   dsimp only
   rw[za (qL hk),zc (zo hk),hx]
   simp only[c8]
   refine(z6 (a:=(VX (f.2.2.1.length:Int) at_ x,x)) ?_ _).trans ?_
   ·exact Nz (Nz (rI (vn x.1) (Nz (Nz (rI (X6 x1) (z6S (X6 x2)))))))
   ·dsimp only
    cases VX (f.2.2.1.length:Int) at_ x with
    | true=>rfl
    | false=>rw[zr,z7,vr k _ hk (by omega)]; rfl
  ·unfold yn
   dsimp only
   rw[z8 (xi _),z7]
 unfold nq
 rw[z6 k1]
 cases a4 f with
 | false=>rfl
 | true =>
  rw[if_pos rfl,Sum.elim_inl,z6 k2]
  cases a5 f<;>rfl
theorem Zl(s:zf)(h:s.length≤600):(tw s).run=some (whS s):=Kv s h
theorem FN(n:Int)(h1:1≤n)(h2:n≤9):qO [Mv (zt (48+n))]=pC n:=by
 have:n=1∨n=2∨n=3∨n=4∨n=5∨n=6∨n=7∨n=8∨n=9:=by omega
 have e:∀ k:Nat,k<10→pC (k:Int)=[UInt8.ofNat (48+k)]:=fun k hk=>by
  unfold pC
  rw[if_neg (by omega),Int.toNat_natCast,AM.KB,dif_pos hk]
 rcases this with rfl | rfl | rfl | rfl | rfl | rfl | rfl | rfl | rfl
 ·exact(e 1 (by decide)).symm
 ·exact(e 2 (by decide)).symm
 ·exact(e 3 (by decide)).symm
 ·exact(e 4 (by decide)).symm
 ·exact(e 5 (by decide)).symm
 ·exact(e 6 (by decide)).symm
 ·exact(e 7 (by decide)).symm
 ·exact(e 8 (by decide)).symm
 ·exact(e 9 (by decide)).symm
theorem JV(x:Field)(h:x.1.length≤600)(h1:Y2 0 x.2.2.2.1)(h2:Y2 x.2.2.2.1 9):(o0 x).run=some (fdS x):=by
 have hi:=fun h0:Y2 1 x.2.2.2.1=>FN x.2.2.2.1 h0 h2
 have hb:(qO ([(Mv (zt ((48:Int)+x.2.2.2.1)))]:List Int)).length=1:=rfl
 have hz:¬ ilt 0 x.2.2.2.1→x.2.2.2.1=(0:Int):=fun q=>Int.le_antisymm (Int.not_lt.1 q) h1
 have ho:ilt 0 x.2.2.2.1→Y2 1 x.2.2.2.1:=fun q=>by unfold Y2 ilt at *; omega
 have hf:(fhS x).length≤x.1.length+11:=HL _
 unfold o0 fdS
 have e:(bif x.2.2.1 then(cat (cat ([102,105,101,108,100,32]:zf) x.1) ([32,109,117,115,116]:zf))else(cat ([102,105,101,108,100,32]:zf) x.1))=fhS x:=rfl
 rw[zD _ (by simp only[List.length_cons,List.length_nil]; omega),zc (fun _=>by simp only[qg,List.length_cons,List.length_nil]; omega),e]
 clear e
 by_cases hs:ilt 0 x.2.2.2.1
 ·have uj:(x.2.2.2.1 != (0:Int))=true:=by
   rw[bne_iff_ne]; intro q; unfold ilt at hs; rw[q]at hs; exact absurd hs (by decide)
  rw[za uj,zD _ (by simp only[List.length_cons,List.length_nil]; omega),zD _ (by simp only[qg,List.length_cons,List.length_nil]; omega),zD _ (by simp only[qg,List.length_cons,List.length_nil]; omega),z7,if_pos hs,hi (ho hs)]
  simp only[c6,List.append_assoc]
 ·have uj:(x.2.2.2.1 != (0:Int))=false:=by rw[hz hs]; rfl
  rw[z8 uj,zD _ (by simp only[List.length_cons,List.length_nil]; omega),z7,if_neg hs]
  rfl
theorem z2N(n:Int):(Xf n).run=some (Yh n):=by
 unfold Xf Yh
 by_cases h1:n=1
 ·rw[if_pos h1,za (by rw[h1]; rfl),z7]
 ·rw[if_neg h1,z8 (by simpa using h1)]
  by_cases h2:n=2
  ·rw[if_pos h2,za (by rw[h2]; rfl),z7]
  ·rw[if_neg h2,z8 (by simpa using h2),z7]
theorem H4(n:Int):(cK n).run=some (ES n):=by
 unfold cK ES
 by_cases h0:n=0
 ·rw[if_pos h0,za (by rw[h0]; rfl),z7]
 ·rw[if_neg h0,z8 (by simpa using h0)]
  by_cases h1:n=1
  ·rw[if_pos h1,za (by rw[h1]; rfl),z7]
  ·rw[if_neg h1,z8 (by simpa using h1)]
   by_cases h2:n=2
   ·rw[if_pos h2,za (by rw[h2]; rfl),z7]
   ·rw[if_neg h2,z8 (by simpa using h2),z7]
theorem KY(f:Form)(h:Oo f):(sZ f).run=some (frS f):=by
 have hn:=h.n
 have m1:=D6 h
 have m2:=Ct h
 have m3:=Cz h
 have m4:=Dd h
 have k1:(Qw f ([],0)).run=some ([]++f.1.flatMap Ow):=by
  refine nk (r:=bq f) f.1 (zb zV) 4000000 100000000000 Ow [] (fun k b x hk hx hm hb => ?_) (fun b => ?_) (fun x hx=>Ui x (h.s x hx)) (by simp only[List.length_nil]; omega)
  ·have q:=h.s x hm
   have bl:(bif x.2.1 then([32,111,110,10]:zf)else[32,111,102,102,10]).length≤5:=by cases x.2.1<;>decide
   unfold bq
   dsimp only
   rw[hx,za (qL hk),zc (zo hk),zD _ (by simp only[qg,List.length_cons,List.length_nil]; omega),zc (zo hk),zD _ (by simp only[qg,List.length_cons,List.length_nil]; omega),zD _ (by simp only[qg,List.length_cons,List.length_nil]; omega),z7,vr k _ hk (by omega)]
   unfold Ow
   simp only[c6,List.append_assoc]
  ·unfold bq
   dsimp only
   rw[z8 (xi _),z7]
 have k2:∀ s:zf,s.length≤1000000000→(QZ f (s,0)).run=some (s++f.2.1.flatMap Fp):=fun s hs=>by
  refine nk (r:=bJ f) f.2.1 (zb zX) 4000000 100000000000 Fp s (fun k b x hk hx hm hb => ?_) (fun b => ?_) (fun x hx=>U8 x (h.p x hx).1 (h.p x hx).2) (by omega)
  ·obtain⟨q,hr⟩:=h.p x hm
   have hr:=z1U hr
   have pl:=ZM _ hr
   unfold bJ
   dsimp only
   rw[hx,za (qL hk),zD _ (by simp only[qg,List.length_cons,List.length_nil]; omega),zc (zo hk),zD _ (by simp only[qg,List.length_cons,List.length_nil]; omega),zD _ (by simp only[qg,List.length_cons,List.length_nil]; omega),zc (zo hk),z6 (Ki _ hr),
    zD _ (by simp only[qg,List.length_cons,List.length_nil]; omega),zD _ (by simp only[qg,List.length_cons,List.length_nil]; omega),z7,vr k _ hk (by omega)]
   unfold Fp
   simp only[c6,List.append_assoc]
  ·unfold bJ
   dsimp only
   rw[z8 (xi _),z7]
 have j1:∀ (i:Nat) (s:zf),s.length≤200000000000→(Xp f (i:Int) (s,0)).run=some (s++f.2.2.2.1.flatMap (Ol i)):=fun i s hs=>by
  refine nk (r:=bm f (i:Int)) f.2.2.2.1 (zb q8) 4000000 400000000000 (Ol i) s (fun k b x hk hx hm hb => ?_) (fun b => ?_) (XC h i) (by omega)
  ·unfold bm Ol
   dsimp only
   rw[hx,za (qL hk),zc (zo hk)]
   cases hc:x.2.1==(i:Int)with
   | true =>
    have fl:=GZ x (h.d x hm) (h.d2 x hm).1 (h.d2 x hm).2
    rw[zA,zc (zo hk),z6 (JV x (h.d x hm) (h.d2 x hm).1 (h.d2 x hm).2),zD _ (by omega),z7,vr k _ hk (by omega),if_pos rfl,c6]
   | false=>rw[zr,z7,vr k _ hk (by omega),if_neg (by decide),List.append_nil]
  ·unfold bm
   dsimp only
   rw[z8 (xi _),z7]
 have j2:∀ (i:Nat) (s:zf),s.length≤400000000000→(QP f (i:Int) (s,0)).run=some (s++f.2.2.2.2.2.1.flatMap (ckI i)):=fun i s hs=>by
  refine nk (r:=bc f (i:Int)) f.2.2.2.2.2.1 (zb zm) 4000000 800000000000 (ckI i) s (fun k b x hk hx hm hb => ?_) (fun b => ?_) (Ho h i) (by omega)
  ·unfold bc ckI
   dsimp only
   rw[hx,za (qL hk),zc (zo hk)]
   simp only[c8]
   cases hc:x.2.1==(i:Int)with
   | true =>
    obtain⟨q1,q2,q3⟩:=h.c x hm
    obtain⟨c1,c2,o1,o2⟩:=h.c2 x hm
    have p1:=dq q2 o1
    have p2:=dq q3 o2
    have cl:=Xu x.2.2.1
    rw[zA,zD _ (by simp only[qg,List.length_cons,List.length_nil]; omega),zD _ (by simp only[qg,List.length_cons,List.length_nil]; omega),zD _ (by simp only[qg,List.length_cons,List.length_nil]; omega),z6 (QR q2 o1),
     zD _ (by simp only[qg,List.length_cons,List.length_nil]; omega),zD _ (by simp only[qg,List.length_cons,List.length_nil]; omega),z6 (z2N _),zD _ (by simp only[qg,List.length_cons,List.length_nil]; omega),zD _ (by simp only[qg,List.length_cons,List.length_nil]; omega),
     z6 (QR q3 o2),zD _ (by simp only[qg,List.length_cons,List.length_nil]; omega),zD _ (by simp only[qg,List.length_cons,List.length_nil]; omega),z7,vr k _ hk (by omega),if_pos rfl]
    unfold ckS siS
    simp only[c6,List.append_assoc]
   | false=>rw[zr,z7,vr k _ hk (by omega),if_neg (by decide),List.append_nil]
  ·unfold bc
   dsimp only
   rw[z8 (xi _),z7]
 have k3:∀ s:zf,s.length≤2000000000→(XQ f (s,0)).run=some (s++(List.range f.2.2.1.length).flatMap (Ia f)):=fun s hs=>by
  refine nk (r:=bf f) (List.range f.2.2.1.length) 0 300000000 100000000000 (Ia f) s (fun k b x hk hx hm hb => ?_) (fun b => ?_) (fun x hx=>GU h (List.mem_range.1 hx)) (by rw[List.length_range]; omega)
  ·rw[List.length_range]at hk
   rw[Gj _ _ hk]at hx
   subst hx
   obtain⟨g1,g2⟩:=II h hk
   have hw:=tr (nth f.2.2.1 (k:Int) (zb qu)).2.1
   have fl:=uV (Ol k) f.2.2.2.1 4000000 (XC h k)
   have:f.2.2.2.1.length*4000000≤30*4000000:=Nat.mul_le_mul_right _ (by omega)
   unfold bf
   dsimp only
   rw[za (qL hk),zD _ (by simp only[qg,List.length_cons,List.length_nil]; omega),zc (zo hk),zD _ (by simp only[qg,List.length_cons,List.length_nil]; omega),zc (zo hk),z6 (Zl _ g2),zD _ (by simp only[qg,List.length_cons,List.length_nil]; omega),zD _ (by simp only[qg,List.length_cons,List.length_nil]; omega),
    z6 (j1 k _ (by simp only[qg,List.length_cons,List.length_nil]; omega)),z6 (j2 k _ (by simp only[List.length_append,qg,List.length_cons,List.length_nil]; omega)),z7,vr k _ hk (by omega)]
   unfold Ia phS
   simp only[c6,List.append_assoc]
  ·unfold bf
   dsimp only
   rw[List.length_range,z8 (xi _),z7]
 have k4:∀ s:zf,s.length≤20000000000→(Qo f (s,0)).run=some (s++f.2.2.2.2.1.flatMap Iq):=fun s hs=>by
  refine nk (r:=bS f) f.2.2.2.2.1 (zb zn) 4000000 100000000000 Iq s (fun k b x hk hx hm hb => ?_) (fun b => ?_) (fun x hx=>by
   obtain⟨q1,q2,q3,q4⟩:=h.r x hx
   obtain⟨_,_,o1,o2⟩:=h.r2 x hx
   exact Uv x q1 q2 q3 q4 o1 o2) (by omega)
  ·obtain⟨q1,q2,q3,q4⟩:=h.r x hm
   obtain⟨c1,c2,o1,o2⟩:=h.r2 x hm
   have p1:=dq q3 o1
   have p2:=dq q4 o2
   have tl:=Kk x.2.1
   have wl:=tr x.2.2.1
   unfold bS
   dsimp only
   rw[hx,za (qL hk),zc (zo hk)]
   simp only[c8]
   rw[zD _ (by simp only[qg,List.length_cons,List.length_nil]; omega),z6 (H4 _),zD _ (by simp only[qg,List.length_cons,List.length_nil]; omega),zD _ (by simp only[qg,List.length_cons,List.length_nil]; omega),zD _ (by simp only[qg,List.length_cons,List.length_nil]; omega),z6 (Zl _ q2),
    zD _ (by simp only[qg,List.length_cons,List.length_nil]; omega),zD _ (by simp only[qg,List.length_cons,List.length_nil]; omega),z6 (QR q3 o1),zD _ (by simp only[qg,List.length_cons,List.length_nil]; omega),zD _ (by simp only[qg,List.length_cons,List.length_nil]; omega),z6 (QR q4 o2),
    zD _ (by simp only[qg,List.length_cons,List.length_nil]; omega),zD _ (by simp only[qg,List.length_cons,List.length_nil]; omega),z7,vr k _ hk (by omega)]
   unfold Iq siS
   simp only[c6,List.append_assoc,List.cons_append,List.nil_append]
  ·unfold bS
   dsimp only
   rw[z8 (xi _),z7]
 unfold sZ
 rw[z6 k1,List.nil_append,z6 (k2 _ (by omega)),z6 (k3 _ (by rw[List.length_append]; omega)),z6 (k4 _ (by simp only[List.length_append]; omega)),z7]
 rfl
theorem CV(f:Form)(h:FS f):(Um f).run=some (pH f):=by
 have hn:=h.n
 have k1:(JI f 0).run=some (if f.1.any UU=true then .inr false else .inl ()):=by
  refine QS (r:=ig f) f.1 (zb zV) UU (fun k x hk hx hm => ?_) ?_
  ·unfold ig UU
   dsimp only
   rw[za (qL hk),zc (zo hk),hx,z6 (vn x.1)]
   cases w6 x.1 with
   | true=>rw[z8 (by rfl),z7,vr k _ hk (by omega)]; rfl
   | false=>rfl
  ·unfold ig
   rw[z8 (xi _),z7]
 have k2:(J9 f 0).run=some (if f.2.1.any fT=true then .inr false else .inl ()):=by
  refine QS (r:=fU f) f.2.1 (zb zX) fT (fun k x hk hx hm => ?_) ?_
  ·unfold fU
   dsimp only
   rw[za (qL hk)]
   refine(z6 (a:=fT x) ?_ _).trans ?_
   ·rw[zc (zo hk),hx]
    refine(VC (vn x.1) ((zc (zo hk) _).trans (Tj (mf _ (z5U (h.p x hm).2))))).trans ?_
    unfold fT
    cases dP x.2.1<;>cases vb x.2.1<;>rfl
   ·cases fT x with
    | true=>rfl
    | false=>rw[zr,z7,vr k _ hk (by omega)]; rfl
  ·unfold fU
   rw[z8 (xi _),z7]
 have k3:(Jw f 0).run=some (if f.2.2.1.any Jh=true then .inr false else .inl ()):=by
  refine QS (r:=fW f) f.2.2.1 (zb qu) Jh (fun k x hk hx hm => ?_) ?_
  ·unfold fW
   dsimp only
   rw[za (qL hk)]
   refine(z6 (a:=Jh x) ?_ _).trans ?_
   ·rw[zc (zo hk),hx]
    exact VC (vn x.1) ((zc (zo hk) _).trans (Tj (YH _)))
   ·cases Jh x with
    | true=>rfl
    | false=>rw[zr,z7,vr k _ hk (by omega)]; rfl
  ·unfold fW
   rw[z8 (xi _),z7]
 have k4:(Kp f 0).run=some (if f.2.2.2.2.1.any QH=true then .inr false else .inl ()):=by
  refine QS (r:=fv f) f.2.2.2.2.1 (zb zn) QH (fun k x hk hx hm => ?_) ?_
  ·obtain⟨_,_,x1,x2⟩:=h.r x hm
   unfold fv
   dsimp only
   rw[za (qL hk),zc (zo hk),hx]
   simp only[c8]
   refine(z6 (a:=(QH x,x)) ?_ _).trans ?_
   ·exact rI (vn x.1) (rI (YH _) (Nz (Nz (rI (X6 x1) (z6S (X6 x2))))))
   ·dsimp only
    cases QH x with
    | true=>rfl
    | false=>rw[zr,z7,vr k _ hk (by omega)]; rfl
  ·unfold fv
   rw[z8 (xi _),z7]
 unfold Um pH
 rw[z6 k1]
 have e1:a1 f = !f.1.any UU:=rfl
 have e2:a2 f = !f.2.1.any fT:=rfl
 have e3:a3 f = !f.2.2.1.any Jh:=rfl
 have e6:a6 f = !f.2.2.2.2.1.any QH:=rfl
 rw[e1,e2,e3]
 cases f.1.any UU with
 | true=>rfl
 | false =>
 rw[if_neg (by decide),Sum.elim_inl,z6 k2]
 cases f.2.1.any fT with
 | true=>rfl
 | false =>
 rw[if_neg (by decide),Sum.elim_inl,z6 k3]
 cases f.2.2.1.any Jh with
 | true=>rfl
 | false =>
 rw[if_neg (by decide),Sum.elim_inl,z6 k4]
 cases q6:f.2.2.2.2.1.any QH with
 | true=>rw[e6,q6]; cases a4 f<;>cases a5 f<;>rfl
 | false =>
 rw[if_neg (by decide),Sum.elim_inl,z6 (KG f h)]
 cases h4:a4 f with
 | false=>rfl
 | true =>
 cases h5:a5 f with
 | false=>rfl
 | true =>
 have h6:a6 f=true:=by rw[e6,q6]; rfl
 rw[za (by rfl),z6 (KY f (z4v h h4 h5 h6)),z7,h6]
 rfl
theorem ni{α β σ ρ:Type}(l:List α)(d:α)(C B:Nat)(g:α→List β)(e:List β→Int→σ)(fin:List β→ρ)(s:List β){r:σ→T (σ⊕ρ)}
  (step:∀ (k:Nat) (b:List β) (x:α),k<l.length→nth l (k:Int) d=x→x∈l→b.length+C≤B→(r (e b (k:Int))).run=some (.inl (e (b++g x) ((k+1:Nat):Int))))
  (done:∀ b,b.length≤B→(r (e b (l.length:Int))).run=some (.inr (fin b))) (hg:∀ x∈l,(g x).length≤C) (hB:s.length+l.length*C≤B):(T.loop r (e s 0)).run=some (fin (s++l.flatMap g)):=by
 have ef:∀ (l:List α) (s:List β),l.foldl (fun s x=>s++g x) s=s++l.flatMap g:=by
  intro l
  induction l with
  | nil=>intro s; simp
  | cons x r ih=>intro s; rw[List.foldl_cons,ih,List.flatMap_cons,List.append_assoc]
 rw[← ef]
 refine T.oF (r:=r) l d e (fun k b=>b.length≤s.length+k*C) (fun b x=>b++g x) fin (fun k b x hk hx hm hI => ?_) (fun b hI=>done b (by omega)) (b:=s) (by omega)
 have h4:=QK (c:=C) (show k+1≤l.length from hk)
 rw[Nat.add_mul,Nat.one_mul]at h4
 refine⟨step k b x hk hx hm (by omega),?_⟩
 have:=hg x hm
 rw[List.length_append,Nat.add_mul,Nat.one_mul]
 omega
theorem z7t{α β:Type}(h:α→β)(l:List α):l.flatMap (fun x=>[h x])=l.map h:=by
 induction l with
 | nil=>rfl
 | cons x r ih=>rw[List.flatMap_cons,ih]; rfl
theorem u9{α:Type}(l:List α)(d:α)(h:α→zf)(s:List zf){r:Int×List zf→T ((Int×List zf)⊕List zf)}
  (step:∀ (k:Nat) (b:List zf) (x:α),k<l.length→nth l (k:Int) d=x→x∈l→b.length≤3000000→(r ((k:Int),b)).run=some (.inl (((k+1:Nat):Int),b++[h x])))
  (done:∀ b,(r ((l.length:Int),b)).run=some (.inr b)) (hB:s.length+l.length≤3000000):(T.loop r (0,s)).run=some (s++l.map h):=by
 have:=ni (r:=r) l d 1 3000000 (fun x=>[h x]) (fun b i=>(i,b)) (fun b=>b) s (fun k b x hk hx hm hb=>step k b x hk hx hm (by omega)) (fun b _=>done b) (fun _ _=>Nat.le_refl _) (by omega)
 rwa [z7t]at this
def QU{β ρ:Type}(h:β→ρ)(y:ρ):Option β→ρ
 | some z=>h z
 | none=>y
theorem fp{α β σ ρ:Type}(l:List α)(d:α)(q:α→Option β)(e:Int→σ)(h:β→ρ)(y:ρ){r:σ→T (σ⊕ρ)}
  (step:∀ (k:Nat) (x:α),k<l.length→nth l (k:Int) d=x→x∈l→(r (e (k:Int))).run=some (QU (fun z=>.inr (h z)) (.inl (e ((k+1:Nat):Int))) (q x)))
  (done:(r (e (l.length:Int))).run=some (.inr y)):(T.loop r (e 0)).run=some (QU h y (l.findSome? q)):=by
 refine T.jt (r:=r) l d (fun(_:Unit) i=>e i) (fun _ _=>True) (fun xs _=>QU h y (xs.findSome? q)) (fun k b x xs hk hx hm _ _ => ?_) (fun b _ => ?_) (b:=()) trivial
 ·rw[step k x hk hx hm,List.findSome?_cons]
  cases q x with
  | some z=>exact .inr rfl
  | none=>exact .inl ⟨(),rfl,trivial,rfl⟩
 ·exact done
def pick{α:Type}(p:α→Bool)(x:α):Option α:=if p x=true then some x else none
theorem Ig{α:Type}(p:α→Bool)(d:α)(l:List α):(l.findSome? (pick p)=none∧PL.vE p 0 l = -1)∨∃ (x:α) (k:Nat),l.findSome? (pick p)=some x∧PL.vE p 0 l=(k:Int)∧k<l.length∧nth l (k:Int) d=x:=by
 have gen:∀ (l:List α) (j:Nat),(l.findSome? (pick p)=none∧PL.vE p (j:Int) l = -1)∨∃ (x:α) (k:Nat),l.findSome? (pick p)=some x∧PL.vE p (j:Int) l=((j+k:Nat):Int)∧k<l.length∧nth l (k:Int) d=x:=by
  intro l
  induction l with
  | nil=>intro j; exact .inl ⟨rfl,rfl⟩
  | cons x r ih =>
   intro j
   rw[List.findSome?_cons]
   unfold PL.vE pick
   cases hp:p x with
   | true=>exact .inr ⟨x,0,rfl,rfl,Nat.zero_lt_succ _,rfl⟩
   | false =>
    rw[if_neg (by decide),if_neg (by decide)]
    rcases ih (j+1)with⟨h1,h2⟩ | ⟨y,k,h1,h2,h3,h4⟩
    ·exact .inl ⟨h1,h2⟩
    ·refine .inr ⟨y,k+1,h1,h2.trans (by rw[show j+1+k=j+(k+1) by omega]),Nat.succ_lt_succ h3,?_⟩
     rw[qP (Nat.succ_lt_succ h3),List.getElem_cons_succ]
     rwa [qP h3]at h4
 rcases gen l 0 with h | ⟨x,k,h1,h2,h3,h4⟩
 ·exact .inl h
 ·exact .inr ⟨x,k,h1,h2.trans (by rw[Nat.zero_add]),h3,h4⟩
theorem Qq(l:List zf)(g:zf→T Bool)(p:zf→Bool)(hg:∀ x∈l,(g x).run=some (p x))(hl:l.length≤1000000000):(qm l g).run=some (PL.vE p 0 l):=by
 have key:(wU l g (l.length:Int) 0).run=some (if PL.vE p 0 l = -1 then .inl ()else .inr (PL.vE p 0 l)):=by
  refine PL.yS l (zb .str) p (fun i h hi hp => ?_) (fun i h hi hp => ?_) (fun i hi => ?_)
  ·have hm:=vi (d:=zb .str) h hi
   simp(disch:=omega) [qe,hi,hg _ hm,hp]
  ·have hm:=vi (d:=zb .str) h hi
   simp(disch:=omega) [qe,hi,hg _ hm,hp]
  ·simp[qe,hi]
 unfold qm
 rw[z6 key]
 split<;>rename_i h<;>simp[h]
theorem any_map(α:Type)(h:α→zf)(s:zf)(l:List α):l.any (fun x=>zF (h x) s)=decide (s∈l.map h):=by
 induction l with
 | nil=>rfl
 | cons x r ih =>
  rw[List.any_cons,ih,List.map_cons,xH]
  by_cases q:h x=s
  ·rw[decide_eq_true q,decide_eq_true (List.mem_cons.2 (.inl q.symm))]; rfl
  ·rw[decide_eq_false q,Bool.false_or]
   exact decide_eq_decide.2 ⟨fun h=>List.mem_cons_of_mem _ h,fun h=>(List.mem_cons.1 h).resolve_left fun e=>q e.symm⟩
def su(f:Form):List zf:=f.1.map (·.1)++f.2.1.map (·.1)++f.2.2.1.map (·.1)++f.2.2.2.1.map (·.1)++f.2.2.2.2.1.map (·.1)++f.2.2.2.2.2.1.map (·.1)
theorem nJ(f:Form)(h:FS f):(gu f).run=some (f.2.2.2.1.map (·.1)):=by
 have hn:=h.n
 have k:(rS f (0,[])).run=some ([]++f.2.2.2.1.map (·.1)):=by
  refine u9 (r:=k9 f) f.2.2.2.1 (zb q8) (·.1) [] (fun k b x hk hx hm hb => ?_) (fun b => ?_) (by simp only[List.length_nil]; omega)
  ·unfold k9
   dsimp only
   rw[hx,za (qL hk),zc (zo hk),qT _ rfl rfl rfl (by omega),ze _ (by simp) rfl (by simp),zc (by simp),z7,vr k _ hk (by omega)]
  ·unfold k9
   dsimp only
   rw[z8 (xi _),ze _ rfl rfl rfl,T.zk,z7]
 unfold gu
 rw[ze _ rfl rfl rfl,T.zk,z6 k,T.zk,z7]
 simp only[List.nil_append,Nat.zero_add,List.take_length,List.drop_zero]
theorem VJ(f:Form)(h:FS f):(iU f).run=some (su f):=by
 have hn:=h.n
 have k0:∀ s:List zf,s.length≤1000→(rT f f.1 (f.1.length:Int) (0,s)).run=some (s++f.1.map (·.1)):=fun s hs=>by
  refine u9 (r:=jS f f.1 (f.1.length:Int)) f.1 (zb zV) (·.1) s (fun k b x hk hx hm hb => ?_) (fun b => ?_) (by omega)
  ·unfold jS
   dsimp only
   rw[hx,za (qL hk),zc (zo hk),qT _ rfl rfl rfl (by omega),ze _ (by simp) rfl (by simp),zc (by simp),z7,vr k _ hk (by omega)]
  ·unfold jS
   dsimp only
   rw[z8 (xi _),ze _ rfl rfl rfl,T.zk,z7]
 have k1:∀ s:List zf,s.length≤1000→(rC f f.2.1 (f.2.1.length:Int) (0,s)).run=some (s++f.2.1.map (·.1)):=fun s hs=>by
  refine u9 (r:=ko f f.2.1 (f.2.1.length:Int)) f.2.1 (zb zX) (·.1) s (fun k b x hk hx hm hb => ?_) (fun b => ?_) (by omega)
  ·unfold ko
   dsimp only
   rw[hx,za (qL hk),zc (zo hk),qT _ rfl rfl rfl (by omega),ze _ (by simp) rfl (by simp),zc (by simp),z7,vr k _ hk (by omega)]
  ·unfold ko
   dsimp only
   rw[z8 (xi _),ze _ rfl rfl rfl,T.zk,z7]
 have k2:∀ s:List zf,s.length≤1000→(si f f.2.2.1 (f.2.2.1.length:Int) (0,s)).run=some (s++f.2.2.1.map (·.1)):=fun s hs=>by
  refine u9 (r:=jP f f.2.2.1 (f.2.2.1.length:Int)) f.2.2.1 (zb qu) (·.1) s (fun k b x hk hx hm hb => ?_) (fun b => ?_) (by omega)
  ·unfold jP
   dsimp only
   rw[hx,za (qL hk),zc (zo hk),qT _ rfl rfl rfl (by omega),ze _ (by simp) rfl (by simp),zc (by simp),z7,vr k _ hk (by omega)]
  ·unfold jP
   dsimp only
   rw[z8 (xi _),ze _ rfl rfl rfl,T.zk,z7]
 have k3:∀ s:List zf,s.length≤1000→(sd f f.2.2.2.1 (f.2.2.2.1.length:Int) (0,s)).run=some (s++f.2.2.2.1.map (·.1)):=fun s hs=>by
  refine u9 (r:=ke f f.2.2.2.1 (f.2.2.2.1.length:Int)) f.2.2.2.1 (zb q8) (·.1) s (fun k b x hk hx hm hb => ?_) (fun b => ?_) (by omega)
  ·unfold ke
   dsimp only
   rw[hx,za (qL hk),zc (zo hk),qT _ rfl rfl rfl (by omega),ze _ (by simp) rfl (by simp),zc (by simp),z7,vr k _ hk (by omega)]
  ·unfold ke
   dsimp only
   rw[z8 (xi _),ze _ rfl rfl rfl,T.zk,z7]
 have k4:∀ s:List zf,s.length≤1000→(sH f f.2.2.2.2.1 (f.2.2.2.2.1.length:Int) (0,s)).run=some (s++f.2.2.2.2.1.map (·.1)):=fun s hs=>by
  refine u9 (r:=jJ f f.2.2.2.2.1 (f.2.2.2.2.1.length:Int)) f.2.2.2.2.1 (zb zn) (·.1) s (fun k b x hk hx hm hb => ?_) (fun b => ?_) (by omega)
  ·unfold jJ
   dsimp only
   rw[hx,za (qL hk),zc (zo hk),qT _ rfl rfl rfl (by omega),ze _ (by simp) rfl (by simp),zc (by simp),z7,vr k _ hk (by omega)]
  ·unfold jJ
   dsimp only
   rw[z8 (xi _),ze _ rfl rfl rfl,T.zk,z7]
 have k5:∀ s:List zf,s.length≤1000→(sg f.2.2.2.2.2.1 (f.2.2.2.2.2.1.length:Int) (0,s)).run=some (s++f.2.2.2.2.2.1.map (·.1)):=fun s hs=>by
  refine u9 (r:=kv f.2.2.2.2.2.1 (f.2.2.2.2.2.1.length:Int)) f.2.2.2.2.2.1 (zb zm) (·.1) s (fun k b x hk hx hm hb => ?_) (fun b => ?_) (by omega)
  ·unfold kv
   dsimp only
   rw[hx,za (qL hk),zc (zo hk),qT _ rfl rfl rfl (by omega),ze _ (by simp) rfl (by simp),zc (by simp),z7,vr k _ hk (by omega)]
  ·unfold kv
   dsimp only
   rw[z8 (xi _),ze _ rfl rfl rfl,T.zk,z7]
 unfold iU
 rw[ze _ rfl rfl rfl,T.zk,z6 (k0 _ (by simp)),List.nil_append,ze _ rfl rfl rfl,T.zk,z6 (k1 _ (by simp only[List.length_append,List.length_map]; omega)),ze _ rfl rfl rfl,T.zk,z6 (k2 _ (by simp only[List.length_append,List.length_map]; omega)),ze _ rfl rfl rfl,T.zk,z6 (k3 _ (by simp only[List.length_append,List.length_map]; omega)),ze _ rfl rfl rfl,T.zk,z6 (k4 _ (by simp only[List.length_append,List.length_map]; omega)),ze _ rfl rfl rfl,T.zk,z6 (k5 _ (by simp only[List.length_append,List.length_map]; omega)),T.zk,z7]
 simp only[Nat.zero_add,List.take_length,List.drop_zero]
 rfl
theorem US(f:Form)(h:FS f):(nW f).run=some (su f):=by
 have hn:=h.n
 have k0:∀ s:List zf,s.length≤1000→(Z9 f (0,s)).run=some (s++f.1.map (·.1)):=fun s hs=>by
  refine u9 (r:=yx f) f.1 (zb zV) (·.1) s (fun k b x hk hx hm hb => ?_) (fun b => ?_) (by omega)
  ·unfold yx
   dsimp only
   rw[hx,za (qL hk),zc (zo hk),qT _ rfl rfl rfl (by omega),ze _ (by simp) rfl (by simp),zc (by simp),z7,vr k _ hk (by omega)]
  ·unfold yx
   dsimp only
   rw[z8 (xi _),ze _ rfl rfl rfl,T.zk,z7]
 have k1:∀ s:List zf,s.length≤1000→(tW f (0,s)).run=some (s++f.2.1.map (·.1)):=fun s hs=>by
  refine u9 (r:=yr f) f.2.1 (zb zX) (·.1) s (fun k b x hk hx hm hb => ?_) (fun b => ?_) (by omega)
  ·unfold yr
   dsimp only
   rw[hx,za (qL hk),zc (zo hk),qT _ rfl rfl rfl (by omega),ze _ (by simp) rfl (by simp),zc (by simp),z7,vr k _ hk (by omega)]
  ·unfold yr
   dsimp only
   rw[z8 (xi _),ze _ rfl rfl rfl,T.zk,z7]
 have k2:∀ s:List zf,s.length≤1000→(Z1 f (0,s)).run=some (s++f.2.2.1.map (·.1)):=fun s hs=>by
  refine u9 (r:=yy f) f.2.2.1 (zb qu) (·.1) s (fun k b x hk hx hm hb => ?_) (fun b => ?_) (by omega)
  ·unfold yy
   dsimp only
   rw[hx,za (qL hk),zc (zo hk),qT _ rfl rfl rfl (by omega),ze _ (by simp) rfl (by simp),zc (by simp),z7,vr k _ hk (by omega)]
  ·unfold yy
   dsimp only
   rw[z8 (xi _),ze _ rfl rfl rfl,T.zk,z7]
 have k3:∀ s:List zf,s.length≤1000→(Z4 f (0,s)).run=some (s++f.2.2.2.2.1.map (·.1)):=fun s hs=>by
  refine u9 (r:=yz f) f.2.2.2.2.1 (zb zn) (·.1) s (fun k b x hk hx hm hb => ?_) (fun b => ?_) (by omega)
  ·unfold yz
   dsimp only
   rw[hx,za (qL hk),zc (zo hk),qT _ rfl rfl rfl (by omega),ze _ (by simp) rfl (by simp),zc (by simp),z7,vr k _ hk (by omega)]
  ·unfold yz
   dsimp only
   rw[z8 (xi _),ze _ rfl rfl rfl,T.zk,z7]
 have k4:∀ s:List zf,s.length≤1000→(Zp f (0,s)).run=some (s++f.2.2.2.2.2.1.map (·.1)):=fun s hs=>by
  refine u9 (r:=yP f) f.2.2.2.2.2.1 (zb zm) (·.1) s (fun k b x hk hx hm hb => ?_) (fun b => ?_) (by omega)
  ·unfold yP
   dsimp only
   rw[hx,za (qL hk),zc (zo hk),qT _ rfl rfl rfl (by omega),ze _ (by simp) rfl (by simp),zc (by simp),z7,vr k _ hk (by omega)]
  ·unfold yP
   dsimp only
   rw[z8 (xi _),ze _ rfl rfl rfl,T.zk,z7]
 unfold nW
 rw[ze _ rfl rfl rfl,T.zk,z6 (k0 _ (by simp)),List.nil_append,ze _ rfl rfl rfl,T.zk,z6 (k1 _ (by simp only[List.length_append,List.length_map]; omega)),ze _ rfl rfl rfl,T.zk,z6 (k2 _ (by simp only[List.length_append,List.length_map]; omega)),z6 (nJ f h),qT _ rfl rfl rfl (by simp only[List.length_append,List.length_map]; omega),ze _ List.length_append.symm rfl List.length_append.symm,zc List.length_append.symm,z6 (k3 _ (by simp only[List.length_append,List.length_map]; omega)),ze _ rfl rfl rfl,T.zk,z6 (k4 _ (by simp only[List.length_append,List.length_map]; omega)),T.zk,z7]
 simp only[Nat.zero_add,List.take_length,List.drop_zero]
 rfl
theorem Cp(seen:List zf)(x:zf)(r:List zf):tn seen (x::r)=if x∈seen then(x,true)else tn (seen++[x]) r:=rfl
theorem IX:∀ (l seen:List zf),(tn seen l).2=true→(tn seen l).1∈l
 | [],_,h=>by cases h
 | x::r,seen,h=>by
  unfold tn at h ⊢
  split
  ·exact List.mem_cons_self
  ·rename_i q
   rw[if_neg q]at h
   exact List.mem_cons_of_mem _ (IX r _ h)
theorem UE:∀ (l seen:List zf),(tn seen l).2=false→(tn seen l).1=[]
 | [],_,_=>rfl
 | x::r,seen,h=>by
  unfold tn at h ⊢
  split
  ·rename_i q
   rw[if_pos q]at h; cases h
  ·rename_i q
   rw[if_neg q]at h
   exact UE r _ h
theorem VD(l:List zf)(hl:l.length≤1000000)(hs:∀ s∈l,s.length≤1000000):(lO l).run=some (tn [] l):=by
 unfold lO
 rw[zc ⟨by omega,fun s h=>by have:=hs s h; omega⟩,z7]
theorem Uy(l:List zf)(hl:l.length≤1000000):(o5 l).run=some (tn [] l).1:=by
 have key:(Zu l 0).run=some (if(tn [] l).2=true then .inr (tn [] l).1 else .inl ()):=by
  refine T.jt (r:=yo l) l (zb .str) (fun(_:List zf) i=>i) (fun k b=>b=l.take k) (fun xs b=>if(tn b xs).2=true then .inr (tn b xs).1 else .inl ()) (fun k b x xs hk hx hm hd hb => ?_) (fun b _ => ?_) (b:=[]) rfl
  ·subst hb
   unfold yo
   dsimp only
   have hc:uq (e:=.str) (0:Int) (k:Int) l=l.take k:=by unfold uq; simp
   have hh:=gN (l.take k) x (by rw[List.length_take]; omega)
   rw[za (qL hk),zc (Rw.2 ⟨by omega,by omega,by omega⟩),zc (zo hk),hc,hx,z6 hh,Cp]
   by_cases q:x∈l.take k
   ·right
    rw[decide_eq_true q,zA,zc (zo hk),z7,if_pos q]
    rfl
   ·left
    rw[decide_eq_false q,zr,z7,if_neg q,vr k _ hk (by omega)]
    refine⟨l.take (k+1),rfl,rfl,?_⟩
    have e:l.take (k+1)=l.take k++[x]:=by
     rw[qP hk]at hx
     rw[List.take_add_one,List.getElem?_eq_getElem hk,hx]; rfl
    rw[e]
  ·unfold yo
   rw[z8 (xi _),z7]; rfl
 unfold o5
 rw[z6 key]
 cases q:(tn [] l).2 with
 | true=>rfl
 | false=>rw[if_neg (by decide),Sum.elim_inl,z7,UE l [] q]
def gsF(f:Form):List zf:=f.2.2.1.map (·.2.1)++f.2.2.2.2.1.map (·.2.2.1)
def dp(f:Form)(s:zf):Bool := !zF s [] && !decide (s∈f.1.map (·.1))
def Ob(f:Form):Option zf:=(gsF f).findSome? (pick (dp f))
theorem Yv{α:Type}{p:α→Bool}{l:List α}{x:α}(h:l.findSome? (pick p)=some x):x∈l∧p x=true:=by
 induction l with
 | nil=>cases h
 | cons y r ih =>
  rw[List.findSome?_cons]at h
  unfold pick at h
  cases hp:p y with
  | true =>
   rw[hp,if_pos rfl]at h
   have e:y=x:=Option.some.inj h
   exact e▸⟨List.mem_cons_self,hp⟩
  | false =>
   rw[hp,if_neg (by decide)]at h
   have:=ih h
   exact⟨List.mem_cons_of_mem _ this.1,this.2⟩
theorem z5b{f:Form}{x:zf}(h:Ob f=some x):zF x []=false:=by
 have:=(Yv h).2
 unfold dp at this
 rw[Bool.and_eq_true,Bool.not_eq_true']at this
 exact this.1
theorem tP(f:Form)(h:FS f):(ga f).run=some (QU (fun x=>(x,true)) ([],false) (Ob f)):=by
 have hn:=h.n
 have k0:∀ s:List zf,s.length≤1000→(iK f f.2.2.1 (f.2.2.1.length:Int) (0,s)).run=some (s++f.2.2.1.map (·.2.1)):=fun s hs=>by
  refine u9 (r:=vw f f.2.2.1 (f.2.2.1.length:Int)) f.2.2.1 (zb qu) (·.2.1) s (fun k b x hk hx hm hb => ?_) (fun b => ?_) (by omega)
  ·unfold vw
   dsimp only
   rw[hx,za (qL hk),zc (zo hk),qT _ rfl rfl rfl (by omega),ze _ (by simp) rfl (by simp),zc (by simp),z7,vr k _ hk (by omega)]
  ·unfold vw
   dsimp only
   rw[z8 (xi _),ze _ rfl rfl rfl,T.zk,z7]
 have k1:∀ s:List zf,s.length≤1000→(fN f f.2.2.2.2.1 (f.2.2.2.2.1.length:Int) (0,s)).run=some (s++f.2.2.2.2.1.map (·.2.2.1)):=fun s hs=>by
  refine u9 (r:=vu f f.2.2.2.2.1 (f.2.2.2.2.1.length:Int)) f.2.2.2.2.1 (zb zn) (·.2.2.1) s (fun k b x hk hx hm hb => ?_) (fun b => ?_) (by omega)
  ·unfold vu
   dsimp only
   rw[hx,za (qL hk),zc (zo hk),qT _ rfl rfl rfl (by omega),ze _ (by simp) rfl (by simp),zc (by simp),z7,vr k _ hk (by omega)]
  ·unfold vu
   dsimp only
   rw[z8 (xi _),ze _ rfl rfl rfl,T.zk,z7]
 have hix:=Qq (gsF f) (fun z0=>wF z0 f) (dp f) (fun s _=>by
  unfold wF dp
  cases zF s []with
  | true=>rfl
  | false =>
   rw[za (by rfl),z6 (Zo f.1 (fun z0=>xW z0 s) (fun x=>zF x.1 s) (fun x _=>rfl) (by omega)),z7,any_map Switch (·.1) s f.1]
   rfl) (by unfold gsF; simp only[List.length_append,List.length_map]; omega)
 unfold ga
 rw[ze _ rfl rfl rfl,T.zk,z6 (k0 _ (by simp)),List.nil_append,ze _ rfl rfl rfl,T.zk,z6 (k1 _ (by rw[List.length_map]; omega)),T.zk]
 simp only[Nat.zero_add,List.take_length,List.drop_zero]
 refine(z6 hix _).trans ?_
 unfold Ob
 rcases Ig (dp f) (zb .str) (gsF f)with⟨h1,h2⟩ | ⟨x,k,h1,h2,h3,h4⟩
 ·rw[h1,h2]; rfl
 ·rw[h1,h2,z8 (decide_eq_false (by omega))]
  have h3':(k:Int).toNat<(f.2.2.1.map (·.2.1)++f.2.2.2.2.1.map (·.2.2.1):List zf).length:=by rw[Int.toNat_natCast]; exact h3
  refine(zc (zo h3) _).trans ((zc (eI.2 ⟨rfl,h3'⟩) _).trans ?_)
  exact congrArg some (congrArg (·,true) h4)
theorem VH(f:Form)(h:FS f):(cX f).run=some ((Ob f).getD []):=by
 have hn:=h.n
 have k0:(sy f (0,[])).run=some ([]++f.1.map (·.1)):=by
  refine u9 (r:=kc f) f.1 (zb zV) (·.1) [] (fun k b x hk hx hm hb => ?_) (fun b => ?_) (by simp only[List.length_nil]; omega)
  ·unfold kc
   dsimp only
   rw[hx,za (qL hk),zc (zo hk),qT _ rfl rfl rfl (by omega),ze _ (by simp) rfl (by simp),zc (by simp),z7,vr k _ hk (by omega)]
  ·unfold kc
   dsimp only
   rw[z8 (xi _),ze _ rfl rfl rfl,T.zk,z7]
 have hg:∀ (N:List zf) (g:zf) (i n:Int) (hN:N.length≤1000000) (hN2:N=f.1.map (·.1)) (P:Prop) (hP:P),
   (.zd P<|.ite (!(zF g ([]:zf))) (.zd P<|.zd ((List.length N)=(List.length N))<|T.bind (yN (List.drop (0:Nat) (List.take ((0:Nat)+(List.length N)) N)) g) fun r=>.zd (zh (List.length N) (0:Nat) (List.length N) (List.length N))<|.zd ((List.length N)=(List.length N))<|.ret ((!r),N))
    (.zd (zh (List.length N) (0:Nat) (List.length N) (List.length N))<|.zd ((List.length N)=(List.length N))<|.ret (false,N)):T (Bool×List zf)).run=some (dp f g,N):=by
  intro N g i n hN hN2 P hP
  subst hN2
  unfold dp
  rw[zc hP]
  cases zF g []with
  | true=>rw[z8 (by rfl),ze _ rfl rfl rfl,T.zk,z7]; rfl
  | false =>
   rw[za (by rfl),zc hP,T.zk]
   simp only[Nat.zero_add,List.take_length,List.drop_zero]
   rw[z6 (gN _ g (by omega)),ze _ rfl rfl rfl,zM,z7]
   rfl
 have k1:(rQ f (0,f.1.map (·.1))).run=some (QU (fun z=>.inr (z,f.1.map (·.1))) (.inl (f.1.map (·.1))) (f.2.2.1.findSome? (fun x=>pick (dp f) x.2.1))):=by
  refine fp (r:=jI f) f.2.2.1 (zb qu) (fun x=>pick (dp f) x.2.1) (fun i=>(i,f.1.map (·.1))) (fun z=>.inr (z,f.1.map (·.1))) (.inl (f.1.map (·.1))) (fun k x hk hx hm => ?_) ?_
  ·unfold jI
   dsimp only
   rw[za (qL hk),hx]
   refine(z6 (hg (f.1.map (·.1)) x.2.1 0 0 (by rw[List.length_map]; omega) rfl _ (zo hk)) _).trans ?_
   dsimp only
   unfold pick
   cases dp f x.2.1 with
   | true=>rw[zA,zc (zo hk),T.zk,z7]; rfl
   | false=>rw[zr,ze _ rfl rfl rfl,T.zk,z7,vr k _ hk (by omega)]; rfl
  ·unfold jI
   dsimp only
   rw[z8 (xi _),ze _ rfl rfl rfl,T.zk,z7]
 have k2:(rf f (0,f.1.map (·.1))).run=some (QU (fun z=>.inr (z,f.1.map (·.1))) (.inl (f.1.map (·.1))) (f.2.2.2.2.1.findSome? (fun x=>pick (dp f) x.2.2.1))):=by
  refine fp (r:=kH f) f.2.2.2.2.1 (zb zn) (fun x=>pick (dp f) x.2.2.1) (fun i=>(i,f.1.map (·.1))) (fun z=>.inr (z,f.1.map (·.1))) (.inl (f.1.map (·.1))) (fun k x hk hx hm => ?_) ?_
  ·unfold kH
   dsimp only
   rw[za (qL hk),hx]
   refine(z6 (hg (f.1.map (·.1)) x.2.2.1 0 0 (by rw[List.length_map]; omega) rfl _ (zo hk)) _).trans ?_
   dsimp only
   unfold pick
   cases dp f x.2.2.1 with
   | true=>rw[zA,zc (zo hk),T.zk,z7]; rfl
   | false=>rw[zr,ze _ rfl rfl rfl,T.zk,z7,vr k _ hk (by omega)]; rfl
  ·unfold kH
   dsimp only
   rw[z8 (xi _),T.zk,z7]
 have e:Ob f=(f.2.2.1.findSome? (fun x=>pick (dp f) x.2.1)).or (f.2.2.2.2.1.findSome? (fun x=>pick (dp f) x.2.2.1)):=by
  unfold Ob gsF
  rw[List.findSome?_append,List.findSome?_map,List.findSome?_map]
  rfl
 unfold cX
 rw[ze _ rfl rfl rfl,T.zk,z6 k0,List.nil_append,ze _ rfl rfl rfl,T.zk,z6 k1,e]
 cases f.2.2.1.findSome? (fun x=>pick (dp f) x.2.1)with
 | some z=>rfl
 | none =>
  show T.run (Sum.elim _ _ (.inl _))=_
  rw[Sum.elim_inl,ze _ rfl rfl rfl,T.zk,z6 k2]
  cases f.2.2.2.2.1.findSome? (fun x=>pick (dp f) x.2.2.1)<;>rfl
mutual
theorem TL:∀ (e:Expr) (acc:List zf),nmE e acc=dd acc (allE e)
 | .mk k n s l,acc=>by
  unfold nmE allE
  rw[I8 l,tx]
  congr 1
  by_cases hk:k=2
  ·rw[if_pos hk,tC,W9]
   by_cases ha:s∈acc
   ·rw[if_pos ha,if_neg]
    rintro⟨-,h⟩
    rw[List.any_eq_false]at h
    exact h s ha (xH s s▸decide_eq_true rfl)
   ·have hf:acc.any (zF s)=false:=List.any_eq_false.2 fun x hx h=>by
     rw[xH]at h
     exact ha (of_decide_eq_true h▸hx)
    rw[if_neg ha,if_pos ⟨hk,hf⟩]
  ·rw[if_neg hk,if_neg (fun h=>hk h.1),W9]
theorem I8:∀ (l:List Expr) (acc:List zf),nmEs l acc=dd acc (allEs l)
 | [],acc=>rfl
 | e::r,acc=>by
  unfold nmEs allEs
  rw[I8 r,TL e,tx]
end
def YX(f:Form):List Expr:=f.2.2.2.2.2.1.flatMap (fun x=>[x.2.2.2.1,x.2.2.2.2.1])++f.2.2.2.2.1.flatMap (fun x=>[x.2.2.2.1,x.2.2.2.2.1])
def MF(f:Form):List zf:=f.2.2.2.1.map (·.1)++f.2.1.map (·.1)
def UX(f:Form)(s:zf):Bool := !decide (s∈MF f)
def nmX(l:List Expr):List zf:=l.flatMap fun e=>nmE e []
def Ot(f:Form):Option zf:=(nmX (YX f)).findSome? (pick (UX f))
theorem z5N{f:Form}(h:FS f):∀ e∈YX f,dW e:=by
 intro e he
 unfold YX at he
 rcases List.mem_append.1 he with he | he<;>obtain⟨x,hx,he⟩:=List.mem_flatMap.1 he
 ·have:=h.c x hx
  rcases List.mem_cons.1 he with rfl | he
  ·exact this.2.1
  ·rw[List.mem_singleton.1 he]; exact this.2.2
 ·have:=h.r x hx
  rcases List.mem_cons.1 he with rfl | he
  ·exact this.2.2.1
  ·rw[List.mem_singleton.1 he]; exact this.2.2.2
theorem jY{α β:Type}(g:α→List β)(C:Nat):∀ (l:List α),(∀ x∈l,(g x).length≤C)→(l.flatMap g).length≤l.length*C
 | [],_=>Nat.zero_le _
 | x::r,h=>by
  have h1:=h x List.mem_cons_self
  have h2:=jY g C r fun y hy=>h y (List.mem_cons_of_mem _ hy)
  rw[List.flatMap_cons,List.length_append,List.length_cons,Nat.add_mul,Nat.one_mul]
  omega
theorem z1V{f:Form}(h:FS f):(YX f).length≤60:=by
 have hn:=h.n
 have h1:=jY (fun x:Check=>[x.2.2.2.1,x.2.2.2.2.1]) 2 f.2.2.2.2.2.1 fun _ _=>Nat.le_refl _
 have h2:=jY (fun x:uT=>[x.2.2.2.1,x.2.2.2.2.1]) 2 f.2.2.2.2.1 fun _ _=>Nat.le_refl _
 unfold YX
 rw[List.length_append]
 exact Nat.le_trans (Nat.add_le_add h1 h2) (by omega)
theorem ZW{e:Expr}(h:dW e):(nmE e []).length≤2400:=by
 have h1:=Xm e []
 have h2:=jF h
 simp only[List.length_nil,Nat.zero_add]at h1
 exact Nat.le_trans h1 h2
theorem Gw{α β γ:Type}(g:α→List β)(q:β→Option γ):∀ l:List α,(l.flatMap g).findSome? q=l.findSome? fun x=>(g x).findSome? q
 | []=>rfl
 | x::r=>by
  rw[List.flatMap_cons,List.findSome?_append,List.findSome?_cons,Gw g q r]
  cases(g x).findSome? q<;>rfl
theorem JX(n C:Nat)(m D:Nat)(h:n≤m)(e:m*C≤D):n*C≤D:=Nat.le_trans (Nat.mul_le_mul_right C h) e
theorem X2(f:Form)(h:FS f):(cA f (f.2.2.2.1.map (·.1))).run=some (QU (fun x=>(x,true)) ([],false) (Ot f)):=by
 have hn:=h.n
 have gl:∀ (a b:Expr),dW a→dW b→(nmE a []++nmE b []).length≤4800:=fun a b ha hb=>by
  rw[List.length_append]; exact Nat.add_le_add (ZW ha) (ZW hb)
 have cc:∀ (b p q:List zf),b.length≤300000→p.length≤2400→q.length≤2400→(wb [b,p,q]).run=some (b++(p++q)):=fun b p q hb hp hq=>by
  unfold wb
  have e:List.flatten [b,p,q]=b++(p++q):=by simp
  rw[e,zc ⟨by simp only[List.length_cons,List.length_nil]; omega,by rw[List.length_append,List.length_append]; omega,by simp⟩,z7]
 have k0:(mZ f (f.2.2.2.1.map (·.1)) f.2.2.2.2.2.1 (f.2.2.2.2.2.1.length:Int) ([],0)).run=some ([]++f.2.2.2.2.2.1.flatMap fun x=>nmE x.2.2.2.1 []++nmE x.2.2.2.2.1 []):=by
  refine ni (r:=uG f (f.2.2.2.1.map (·.1)) f.2.2.2.2.2.1 (f.2.2.2.2.2.1.length:Int)) f.2.2.2.2.2.1 (zb zm) 4800 300000 (fun x=>nmE x.2.2.2.1 []++nmE x.2.2.2.2.1 []) (fun b i=>(b,i)) (fun b=>b) [] (fun k b x hk hx hm hb => ?_) (fun b _ => ?_) (fun x hx=>gl _ _ (h.c x hx).2.1 (h.c x hx).2.2) (by rw[List.length_nil,Nat.zero_add]; exact JX _ 4800 30 300000 (by omega) (by decide))
  ·have hc:=h.c x hm
   unfold uG
   dsimp only
   rw[hx,za (qL hk),zc (zo hk),c8,c8,z6 (nh _ (Nat.le_trans (jF hc.2.1) (by decide))),z6 (nh _ (Nat.le_trans (jF hc.2.2) (by decide))),z6 (cc _ _ _ (by omega) (ZW hc.2.1) (ZW hc.2.2)),z7,vr k _ hk (by omega)]
  ·unfold uG
   dsimp only
   rw[z8 (xi _),z7]
 have l0:(f.2.2.2.2.2.1.flatMap fun x=>nmE x.2.2.2.1 []++nmE x.2.2.2.2.1 []).length≤144000 :=
  Nat.le_trans (jY _ 4800 _ fun x hx=>gl _ _ (h.c x hx).2.1 (h.c x hx).2.2) (JX _ 4800 30 144000 (by omega) (by decide))
 have k1:∀ s:List zf,s.length≤144000→(mR f (f.2.2.2.1.map (·.1)) f.2.2.2.2.1 (f.2.2.2.2.1.length:Int) (s,0)).run=some (s++f.2.2.2.2.1.flatMap fun x=>nmE x.2.2.2.1 []++nmE x.2.2.2.2.1 []):=fun s hs=>by
  refine ni (r:=uS f (f.2.2.2.1.map (·.1)) f.2.2.2.2.1 (f.2.2.2.2.1.length:Int)) f.2.2.2.2.1 (zb zn) 4800 300000 (fun x=>nmE x.2.2.2.1 []++nmE x.2.2.2.2.1 []) (fun b i=>(b,i)) (fun b=>b) s (fun k b x hk hx hm hb => ?_) (fun b _ => ?_) (fun x hx=>gl _ _ (h.r x hx).2.2.1 (h.r x hx).2.2.2) (Nat.le_trans (Nat.add_le_add hs (JX _ 4800 30 144000 (by omega) (by decide))) (by decide))
  ·have hc:=(h.r x hm).2.2
   unfold uS
   dsimp only
   rw[hx,za (qL hk),zc (zo hk),c8,c8,z6 (nh _ (Nat.le_trans (jF hc.1) (by decide))),z6 (nh _ (Nat.le_trans (jF hc.2) (by decide))),z6 (cc _ _ _ (by omega) (ZW hc.1) (ZW hc.2)),z7,vr k _ hk (by omega)]
  ·unfold uS
   dsimp only
   rw[z8 (xi _),z7]
 have l1:(f.2.2.2.2.1.flatMap fun x=>nmE x.2.2.2.1 []++nmE x.2.2.2.2.1 []).length≤144000 :=
  Nat.le_trans (jY _ 4800 _ fun x hx=>gl _ _ (h.r x hx).2.2.1 (h.r x hx).2.2.2) (JX _ 4800 30 144000 (by omega) (by decide))
 have eN:nmX (YX f)=(f.2.2.2.2.2.1.flatMap fun x=>nmE x.2.2.2.1 []++nmE x.2.2.2.2.1 [])++f.2.2.2.2.1.flatMap fun x=>nmE x.2.2.2.1 []++nmE x.2.2.2.2.1 []:=by
  unfold nmX YX
  rw[List.flatMap_append,List.flatMap_assoc,List.flatMap_assoc]
  simp only[List.flatMap_cons,List.flatMap_nil,List.append_nil]
 have hix:=Qq (nmX (YX f)) (fun z0=>vq z0 (f.2.2.2.1.map (·.1)) f) (UX f) (fun s _=>by
  unfold vq
  rw[z6 (cB _ s (by rw[List.length_map]; omega))]
  have e1:(f.2.2.2.1.map (·.1)).any (zF s)=decide (s∈f.2.2.2.1.map (·.1)):=by
   have:(zF s)=fun x=>zF x s:=by funext x; rw[xH,xH]; exact decide_eq_decide.2 ⟨Eq.symm,Eq.symm⟩
   rw[this,← List.map_id (f.2.2.2.1.map (·.1)),List.any_map,← any_map zf id s]; simp
  rw[e1]
  unfold UX MF
  by_cases q:s∈f.2.2.2.1.map (·.1)
  ·rw[decide_eq_true q,z8 (by rfl),z7,decide_eq_true (List.mem_append.2 (.inl q))]; rfl
  ·rw[decide_eq_false q,za (by rfl),z6 (Xt f.2.1 (fun z0=>wo z0 s) (fun x=>zF x.1 s) (fun x _=>rfl) (by omega)),z7,any_map Param (·.1) s f.2.1]
   have:(s∈f.2.2.2.1.map (·.1)++f.2.1.map (·.1))↔s∈f.2.1.map (·.1):=by rw[List.mem_append]; exact⟨fun z=>z.resolve_left q,.inr⟩
   rw[decide_eq_decide.2 this]) (by rw[eN,List.length_append]; omega)
 unfold cA
 rw[z6 k0,List.nil_append,z6 (k1 _ l0),← eN]
 refine(z6 hix _).trans ?_
 unfold Ot
 rcases Ig (UX f) (zb .str) (nmX (YX f))with⟨h1,h2⟩ | ⟨x,k,h1,h2,h3,h4⟩
 ·rw[h1,h2]; rfl
 ·rw[h1,h2,z8 (decide_eq_false (by omega)),zc (zo h3),z7,h4]; rfl
theorem NJ(f:Form)(h:FS f):(fP f).run=some (YX f):=by
 have hn:=h.n
 have k0:(tQ f (0,[])).run=some ([]++f.2.2.2.2.2.1.flatMap fun x=>[x.2.2.2.1,x.2.2.2.2.1]):=by
  refine ni (r:=yM f) f.2.2.2.2.2.1 (zb zm) 2 1000 (fun x=>[x.2.2.2.1,x.2.2.2.2.1]) (fun b i=>(i,b)) (fun b=>b) [] (fun k b x hk hx hm hb => ?_) (fun b _ => ?_) (fun _ _=>Nat.le_refl _) (by rw[List.length_nil,Nat.zero_add]; omega)
  ·unfold yM
   dsimp only
   rw[hx,za (qL hk),zc (zo hk),zc (zo hk),qT _ rfl rfl rfl (by omega),ze _ (by simp) rfl (by simp),zc (by simp),z7,vr k _ hk (by omega)]
  ·unfold yM
   dsimp only
   rw[z8 (xi _),ze _ rfl rfl rfl,T.zk,z7]
 have l0:(f.2.2.2.2.2.1.flatMap fun x=>[x.2.2.2.1,x.2.2.2.2.1]).length≤60 :=
  Nat.le_trans (jY _ 2 _ fun _ _=>Nat.le_refl _) (JX _ 2 30 60 (by omega) (by decide))
 have k1:∀ s:List Expr,s.length≤60→(Zq f (0,s)).run=some (s++f.2.2.2.2.1.flatMap fun x=>[x.2.2.2.1,x.2.2.2.2.1]):=fun s hs=>by
  refine ni (r:=yE f) f.2.2.2.2.1 (zb zn) 2 1000 (fun x=>[x.2.2.2.1,x.2.2.2.2.1]) (fun b i=>(i,b)) (fun b=>b) s (fun k b x hk hx hm hb => ?_) (fun b _ => ?_) (fun _ _=>Nat.le_refl _) (by omega)
  ·unfold yE
   dsimp only
   rw[hx,za (qL hk),zc (zo hk),zc (zo hk),qT _ rfl rfl rfl (by omega),ze _ (by simp) rfl (by simp),zc (by simp),z7,vr k _ hk (by omega)]
  ·unfold yE
   dsimp only
   rw[z8 (xi _),ze _ rfl rfl rfl,T.zk,z7]
 unfold fP
 rw[ze _ rfl rfl rfl,T.zk,z6 k0,List.nil_append,ze _ rfl rfl rfl,T.zk,z6 (k1 _ l0),T.zk,z7]
 simp only[Nat.zero_add,List.take_length,List.drop_zero]
 rfl
theorem Wd(f:Form)(h:FS f):(bO (YX f) (MF f)).run=some ((Ot f).getD []):=by
 have hn:=h.n
 have hk:(MF f).length≤1000000000:=by unfold MF; simp only[List.length_append,List.length_map]; omega
 have hl:=z1V h
 have kin:∀ (i:Int) (n:List zf),n.length≤1000000→(pw (YX f) (MF f) i n 0).run=some (QU .inr (.inl ()) (n.findSome? (pick (UX f)))):=by
  intro i n hn
  refine fp (r:=j9 (YX f) (MF f) i n) n (zb .str) (pick (UX f)) (fun i=>i) .inr (.inl ()) (fun k x Jt hx hm => ?_) ?_
  ·unfold j9
   dsimp only
   rw[za (qL Jt),hx,zc (zo Jt),z6 (gN _ x hk)]
   unfold pick UX
   by_cases q:x∈MF f
   ·rw[decide_eq_true q,z8 (by rfl),z7,vr k _ Jt (by omega)]; rfl
   ·rw[decide_eq_false q,za (by rfl),zc (zo Jt),z7]; rfl
  ·unfold j9
   rw[z8 (xi _),z7]
 have k0:(pz (YX f) (MF f) 0).run=some (QU .inr (.inl ()) ((YX f).findSome? fun e=>(nmE e []).findSome? (pick (UX f)))):=by
  refine fp (r:=jg (YX f) (MF f)) (YX f) (zb .expr) (fun e=>(nmE e []).findSome? (pick (UX f))) (fun i=>i) .inr (.inl ()) (fun k x Jt hx hm => ?_) ?_
  ·have DI:=z5N h x hm
   unfold jg
   dsimp only
   rw[za (qL Jt),hx,zc (zo Jt),z6 (rm _ (Nat.le_trans (jF DI) (by decide))),← TL,z6 (kin _ _ (Nat.le_trans (ZW DI) (by decide)))]
   cases(nmE x []).findSome? (pick (UX f))with
   | some z=>rfl
   | none =>
    show T.run (T.ret (Sum.inl (zt ((k:Int)+1))):T (Int⊕(Unit⊕zf)))=_
    rw[z7,vr k _ Jt (by omega)]; rfl
  ·unfold jg
   rw[z8 (xi _),z7]
 unfold bO
 rw[z6 k0]
 unfold Ot nmX
 rw[Gw]
 cases(YX f).findSome? fun e=>(nmE e []).findSome? (pick (UX f))<;>rfl
theorem dt{α:Type}(l:List α):List.drop 0 (List.take (0+l.length) l)=l:=by simp
theorem CX{s:zf}(h:w6 s=true):zF s []=false:=by
 cases s with
 | nil=>cases h
 | cons b r=>rw[xH]; exact decide_eq_false (by simp)
mutual
theorem YU:∀ (e:Expr) (d:Nat),vf d e=true→∀ x∈allE e,w6 x=true
 | .mk k n s l,d,h,x,hx=>by
  unfold vf at h
  rw[Bool.and_eq_true,Bool.and_eq_true]at h
  unfold allE at hx
  rcases List.mem_append.1 hx with hx | hx
  ·by_cases hk:k=2
   ·rw[if_pos hk,List.mem_singleton]at hx
    have E5:=hx
    have h2:=h.2.1
    unfold cR at h2
    rw[Bool.and_eq_true]at h2
    have h3:=h2.2
    subst hk
    rw[E5]
    rw[if_neg (by show ¬ (2:Int)=1; decide),if_pos (by rfl),Bool.and_eq_true]at h3
    exact h3.2
   ·rw[if_neg hk]at hx; cases hx
  ·exact Ju l (d+1) h.2.2 x hx
theorem Ju:∀ (l:List Expr) (d:Nat),kU d l=true→∀ x∈allEs l,w6 x=true
 | [],d,h,x,hx=>by cases hx
 | e::r,d,h,x,hx=>by
  unfold kU at h
  rw[Bool.and_eq_true]at h
  unfold allEs at hx
  rcases List.mem_append.1 hx with hx | hx
  ·exact YU e d h.1 x hx
  ·exact Ju r d h.2 x hx
end
theorem Uf{α:Type}{p:α→Bool}{l:List α}(h:(!l.any p)=true):∀ x∈l,p x=false:=by
 rw[Bool.not_eq_true',List.any_eq_false]at h
 exact fun x hx=>Bool.not_eq_true _ |>.mp (h x hx)
theorem ZA{f:Form}(h:pH f=true):a1 f=true∧a2 f=true∧a3 f=true∧a4 f=true∧a5 f=true∧a6 f=true:=by
 unfold pH at h
 simp only[Bool.and_eq_true]at h
 exact⟨h.1,h.2.1,h.2.2.1,h.2.2.2.1,h.2.2.2.2.1,h.2.2.2.2.2.1⟩
theorem Yq{f:Form}(h:pH f=true){x:uT}(hx:x∈f.2.2.2.2.1):w6 x.1=true∧ns x.2.2.1=true∧0≤x.2.1∧x.2.1≤3∧vf 0 x.2.2.2.1=true∧vf 0 x.2.2.2.2.1=true:=by
 have:=Uf (ZA h).2.2.2.2.2 x hx
 unfold QH at this
 simp only[Bool.or_eq_false_iff,Bool.not_eq_false',decide_eq_false_iff_not]at this
 exact⟨this.1,this.2.1,Int.not_lt.1 this.2.2.1,Int.not_lt.1 this.2.2.2.1,this.2.2.2.2.1,this.2.2.2.2.2⟩
theorem UL{f:Form}(h:pH f=true){x:Check}(hx:x∈f.2.2.2.2.2.1):w6 x.1=true∧vf 0 x.2.2.2.1=true∧vf 0 x.2.2.2.2.1=true:=by
 obtain⟨b,this⟩:=mU (ZA h).2.2.2.2.1 x hx
 unfold VX at this
 simp only[Bool.or_eq_false_iff,Bool.not_eq_false']at this
 exact⟨this.2.2.1,this.2.2.2.2.2.1,this.2.2.2.2.2.2⟩
theorem Zx{f:Form}(h:pH f=true):∀ s∈su f,w6 s=true:=by
 have hp:=ZA h
 intro s hs
 unfold su at hs
 simp only[List.mem_append,List.mem_map,or_assoc]at hs
 rcases hs with⟨x,hx,rfl⟩ | ⟨x,hx,rfl⟩ | ⟨x,hx,rfl⟩ | ⟨x,hx,rfl⟩ | ⟨x,hx,rfl⟩ | ⟨x,hx,rfl⟩
 ·have:=Uf hp.1 x hx
  unfold UU at this
  rwa [Bool.not_eq_false']at this
 ·have:=Uf hp.2.1 x hx
  unfold fT at this
  simp only[Bool.or_eq_false_iff,Bool.not_eq_false']at this
  exact this.1
 ·have:=Uf hp.2.2.1 x hx
  unfold Jh at this
  simp only[Bool.or_eq_false_iff,Bool.not_eq_false']at this
  exact this.1
 ·obtain⟨b,this⟩:=mU hp.2.2.2.1 x hx
  unfold VM at this
  simp only[Bool.or_eq_false_iff,Bool.not_eq_false']at this
  exact this.2.2.1
 ·exact(Yq h hx).1
 ·exact(UL h hx).1
theorem z2z{f:Form}(h:pH f=true):∀ e∈YX f,vf 0 e=true:=by
 intro e he
 unfold YX at he
 rcases List.mem_append.1 he with he | he<;>obtain⟨x,hx,he⟩:=List.mem_flatMap.1 he
 ·have:=UL h hx
  rcases List.mem_cons.1 he with rfl | he
  ·exact this.2.1
  ·rw[List.mem_singleton.1 he]; exact this.2.2
 ·have:=Yq h hx
  rcases List.mem_cons.1 he with rfl | he
  ·exact this.2.2.2.2.1
  ·rw[List.mem_singleton.1 he]; exact this.2.2.2.2.2
theorem z6r{f:Form}(h:pH f=true){s:zf}(hs:Ot f=some s):w6 s=true:=by
 have:=(Yv hs).1
 unfold nmX at this
 obtain⟨e,he,hm⟩:=List.mem_flatMap.1 this
 rcases(GC e [] s).1 hm with q | q
 ·cases q
 ·exact YU e 0 (z2z h e he) s q
def JB(f:Form)(x:uT):Option zf:=if(!dh (f.2.2.2.1.map (·.1)) x.2.2.2.1 || !dh (f.2.2.2.1.map (·.1)) x.2.2.2.2.1)=true then some x.1 else none
def lnF(f:Form):Option zf:=f.2.2.2.2.1.findSome? (JB f)
def B4(f:Form):Int×zf :=
 if pH f=true then
  if(tn [] (su f)).2=true then(5,(tn [] (su f)).1)
  else QU (fun n=>((5:Int),n)) (QU (fun n=>(5,n)) (QU (fun n=>(6,n)) (0,[]) (lnF f)) (Ot f)) (Ob f)
 else(2,[])
theorem RW{f:Form}(h:FS f):(f.2.2.2.1.map (·.1)).length≤30:=by
 have:=h.n
 rw[List.length_map]; omega
theorem Ew(f:Form)(h:FS f):(eL f).run=some (B4 f):=by
 have hn:=h.n
 have k0:(oY f f.2.2.2.1 (f.2.2.2.1.length:Int) (0,[])).run=some ([]++f.2.2.2.1.map (·.1)):=by
  refine u9 (r:=jh f f.2.2.2.1 (f.2.2.2.1.length:Int)) f.2.2.2.1 (zb q8) (·.1) [] (fun k b x hk hx hm hb => ?_) (fun b => ?_) (by simp only[List.length_nil]; omega)
  ·unfold jh
   dsimp only
   rw[hx,za (qL hk),zc (zo hk),qT _ rfl rfl rfl (by omega),ze _ (by simp) rfl (by simp),zc (by simp),z7,vr k _ hk (by omega)]
  ·unfold jh
   dsimp only
   rw[z8 (xi _),ze _ rfl rfl rfl,T.zk,z7]
 have hF:=RW h
 have k1:(pB f.2.2.2.2.1 (f.2.2.2.2.1.length:Int) (0,f.2.2.2.1.map (·.1))).run=some (QU (fun n=>.inr (6,(n,f.2.2.2.1.map (·.1)))) (.inl (f.2.2.2.1.map (·.1))) (lnF f)):=by
  refine fp (r:=j6 f.2.2.2.2.1 (f.2.2.2.2.1.length:Int)) f.2.2.2.2.1 (zb zn) (JB f) (fun i=>(i,f.2.2.2.1.map (·.1))) _ _ (fun k x hk hx hm => ?_) ?_
  ·have hc:=(h.r x hm).2.2
   unfold j6 JB
   dsimp only
   rw[hx,za (qL hk),zc (zo hk),c8,c8,dt]
   have l1:=Ke x.2.2.2.1 (f.2.2.2.1.map (·.1)) (Nat.le_trans (jF hc.1) (by decide)) (by omega)
   have l2:=Ke x.2.2.2.2.1 (f.2.2.2.1.map (·.1)) (Nat.le_trans (jF hc.2) (by decide)) (by omega)
   cases hl:dh (f.2.2.2.1.map (·.1)) x.2.2.2.1 with
   | false =>
    rw[hl]at l1
    refine(z6 (a:=(true,(f.2.2.2.1.map (·.1),x))) ?_ _).trans ?_
    ·rw[T.zk,z6 l1,za (by rfl),ze _ rfl rfl rfl,T.zk,z7]
    ·dsimp only
     rw[zA,T.zk,z7]; rfl
   | true =>
    rw[hl]at l1
    refine(z6 (a:=(!dh (f.2.2.2.1.map (·.1)) x.2.2.2.2.1,(f.2.2.2.1.map (·.1),x))) ?_ _).trans ?_
    ·rw[T.zk,z6 l1,z8 (by rfl),T.zk,z6 l2,ze _ rfl rfl rfl,T.zk,z7]
    ·dsimp only
     cases dh (f.2.2.2.1.map (·.1)) x.2.2.2.2.1 with
     | false=>rw[Bool.not_false,zA,T.zk,z7]; rfl
     | true=>rw[Bool.not_true,zr,ze _ rfl rfl rfl,T.zk,z7,vr k _ hk (by omega)]; rfl
  ·unfold j6
   dsimp only
   rw[z8 (xi _),T.zk,z7]
 unfold eL B4
 rw[z6 (GL f h)]
 cases hI:pH f with
 | false=>rw[za (by rfl),z7]; rfl
 | true =>
  have Lm:=Zx hI
  have h64:(decide ((64:Int)<(f.2.2.2.1.length:Int))||decide ((64:Int)<(f.2.2.2.2.1.length:Int)))=false:=by
   rw[decide_eq_false (by omega),decide_eq_false (by omega)]; rfl
  have Sy:(su f).length≤1000000:=by unfold su; simp only[List.length_append,List.length_map]; omega
  rw[z8 (by rfl),z8 h64,z6 (VJ f h),z6 (VD _ Sy (fun s hs=>by
   have:=Lm s hs
   cases s with
   | nil=>exact Nat.zero_le _
   | cons b r =>
    unfold w6 at this
    rw[Bool.and_eq_true,decide_eq_true_eq]at this
    omega)),if_pos rfl]
  cases ht:(tn [] (su f)).2 with
  | true=>rw[if_pos rfl]; dsimp only; rw[ht,zA,z7]
  | false =>
   rw[if_neg (by decide)]
   dsimp only
   rw[ht,zr,z6 (tP f h)]
   cases Ob f with
   | some n=>rfl
   | none =>
    show T.run (T.ite false _ _)=_
    rw[zr,ze _ rfl rfl rfl,T.zk,z6 k0,List.nil_append,T.zk,dt,z6 (X2 f h)]
    cases Ot f with
    | some n=>rfl
    | none =>
     show T.run (T.ite false _ _)=_
     rw[zr,ze _ rfl rfl rfl,T.zk,z6 k1]
     cases lnF f<;>rfl
theorem VF(f:Form)(h:FS f):(lN f).run=some (B4 f):=by
 have hn:=h.n
 have hF:=RW h
 have k0:(fM f (f.2.2.2.1.map (·.1)) (0,f.2.2.2.1.map (·.1))).run=some (MF f):=by
  refine u9 (r:=k8 f (f.2.2.2.1.map (·.1))) f.2.1 (zb zX) (·.1) _ (fun k b x hk hx hm hb => ?_) (fun b => ?_) (by omega)
  ·unfold k8
   dsimp only
   rw[hx,za (qL hk),zc (zo hk),qT _ rfl rfl rfl (by omega),ze _ (by simp) rfl (by simp),zc (by simp),z7,vr k _ hk (by omega)]
  ·unfold k8
   dsimp only
   rw[z8 (xi _),ze _ rfl rfl rfl,T.zk,z7]
 have k1:(rU f (f.2.2.2.1.map (·.1)) 0).run=some (QU (fun n=>.inr (6,n)) (.inl ()) (lnF f)):=by
  refine fp (r:=jT f (f.2.2.2.1.map (·.1))) f.2.2.2.2.1 (zb zn) (JB f) (fun i=>i) _ _ (fun k x hk hx hm => ?_) ?_
  ·have hc:=(h.r x hm).2.2
   unfold jT JB
   dsimp only
   rw[hx,za (qL hk)]
   have l1:=p7 x.2.2.2.1 (f.2.2.2.1.map (·.1)) (Nat.le_trans (jF hc.1) (by decide)) (by omega)
   have l2:=p7 x.2.2.2.2.1 (f.2.2.2.1.map (·.1)) (Nat.le_trans (jF hc.2) (by decide)) (by omega)
   cases hl:dh (f.2.2.2.1.map (·.1)) x.2.2.2.1 with
   | false =>
    rw[hl]at l1
    refine(z6 (a:=true) ?_ _).trans ?_
    ·rw[zc (zo hk),z6 l1,za (by rfl),z7]
    ·rw[zA,zc (zo hk),z7]; rfl
   | true =>
    rw[hl]at l1
    refine(z6 (a := !dh (f.2.2.2.1.map (·.1)) x.2.2.2.2.1) ?_ _).trans ?_
    ·rw[zc (zo hk),z6 l1,z8 (by rfl),zc (zo hk),z6 l2,z7]
    ·cases dh (f.2.2.2.1.map (·.1)) x.2.2.2.2.1 with
     | false=>rw[Bool.not_false,zA,zc (zo hk),z7]; rfl
     | true=>rw[Bool.not_true,zr,z7,vr k _ hk (by omega)]; rfl
  ·unfold jT
   rw[z8 (xi _),z7]
 have kl:(MF f).length≤1000:=by unfold MF; simp only[List.length_append,List.length_map]; omega
 unfold lN B4
 rw[z6 (CV f h)]
 cases hI:pH f with
 | false=>rw[za (by rfl),z7]; rfl
 | true =>
  have Lm:=Zx hI
  have h64:(decide ((64:Int)<(f.2.2.2.1.length:Int))||decide ((64:Int)<(f.2.2.2.2.1.length:Int)))=false:=by
   rw[decide_eq_false (by omega),decide_eq_false (by omega)]; rfl
  have Sy:(su f).length≤1000000:=by unfold su; simp only[List.length_append,List.length_map]; omega
  have mid:∀ s:zf,zF s []=true→(.ite (zF s ([]:zf))
        (.zd (xp (0:Nat) (0:Nat) (0:Nat) (0:Nat) (0:Nat) (List.length (f.2.2.2.1.map (·.1))) (16:Nat)) <|
         .zd (zh ((0:Nat)+(List.length (f.2.2.2.1.map (·.1)))) (0:Nat) ((0:Nat)+(List.length (f.2.2.2.1.map (·.1)))) (List.length (f.2.2.2.1.map (·.1)))) <|
         .zd (((0:Nat)+(List.length (f.2.2.2.1.map (·.1))))=(List.length (f.2.2.2.1.map (·.1)))) <|
         T.bind (fM f (f.2.2.2.1.map (·.1)) ((0:Int),(f.2.2.2.1.map (·.1)))) fun zy =>
         T.bind (fP f) fun r2 =>
         .zd ((List.length zy)=(List.length zy)) <|
         T.bind (bO r2 (List.drop (0:Nat) (List.take ((0:Nat)+(List.length zy)) zy))) fun s3 =>
         .ret s3)
        (.ret s):T (zf)).run=some ((Ot f).getD []):=fun s hs=>by
   rw[za hs,qT _ rfl rfl rfl (by omega),ze _ (by omega) rfl (by omega),zc (by omega),z6 k0,z6 (NJ f h),T.zk,dt,z6 (Wd f h),z7]
  have z6Y:∀ s:zf,zF s []=false→∀ t:T zf,(.ite (zF s ([]:zf)) t (.ret s):T (zf)).run=some s:=fun s hs t=>by
   rw[z8 hs,z7]
  have fin:∀ s:zf,zF s []=false→∀ t:T (Int×zf),(.ite (!(zF s ([]:zf))) (.ret ((5:Int),s)) t:T (Int×zf)).run=some (5,s):=fun s hs t=>by
   rw[hs,za (by rfl),z7]
  rw[z8 (by rfl),z8 h64,z6 (US f h),z6 (Uy _ Sy),if_pos rfl]
  cases ht:(tn [] (su f)).2 with
  | true =>
   have hs:=CX (Lm _ (IX _ _ ht))
   rw[if_pos rfl,z6 (z6Y _ hs _),z6 (nJ f h),z6 (z6Y _ hs _),fin _ hs]
  | false =>
   rw[if_neg (by decide),UE _ _ ht]
   have e1:(.ite (zF ([]:zf) ([]:zf)) (T.bind (cX f) fun s1=>.ret s1) (.ret []):T zf).run=some ((Ob f).getD []):=by
    rw[za (by rfl),z6 (VH f h),z7]
   rw[z6 e1,z6 (nJ f h)]
   cases hg:Ob f with
   | some n =>
    have hs:=z5b hg
    exact(z6 (z6Y n hs _) _).trans (fin n hs _)
   | none =>
    refine(z6 (mid [] rfl) _).trans ?_
    cases hk:Ot f with
    | some n=>exact fin _ (CX (z6r hI hk)) _
    | none =>
     show T.run (T.ite (!zF [] []) _ _)=_
     rw[z8 (by rfl),z6 k1]
     cases lnF f<;>rfl
theorem Gn:∀ (l seen:List zf),(tn seen l).2=false→l.Nodup∧∀ x∈l,x ∉ seen
 | [],_,_=>⟨List.nodup_nil,fun _ h=>by cases h⟩
 | x::r,seen,h=>by
  rw[Cp]at h
  by_cases q:x∈seen
  ·rw[if_pos q]at h; cases h
  ·rw[if_neg q]at h
   obtain⟨h1,h2⟩:=Gn r (seen++[x]) h
   refine⟨List.nodup_cons.2 ⟨fun hm=>h2 x hm (by simp),h1⟩,fun y hy => ?_⟩
   rcases List.mem_cons.1 hy with rfl | hy
   ·exact q
   ·exact fun hs=>h2 y hy (List.mem_append.2 (.inl hs))
theorem PB{f:Form}(h:(B4 f).1=0):pH f=true∧(tn [] (su f)).2=false∧Ob f=none∧Ot f=none∧lnF f=none:=by
 unfold B4 at h
 cases hI:pH f with
 | false=>rw[hI,if_neg (by decide)]at h; cases h
 | true =>
  rw[hI,if_pos rfl]at h
  cases ht:(tn [] (su f)).2 with
  | true=>rw[ht,if_pos rfl]at h; cases h
  | false =>
   rw[ht,if_neg (by decide)]at h
   cases hg:Ob f with
   | some n=>rw[hg]at h; cases h
   | none =>
    rw[hg]at h
    cases hk:Ot f with
    | some n=>rw[hk]at h; cases h
    | none =>
     rw[hk]at h
     cases hl:lnF f with
     | some n=>rw[hl]at h; cases h
     | none=>exact⟨rfl,rfl,rfl,rfl,rfl⟩
theorem GN(l:List Switch)(g:Switch→T Bool)(p:Switch→Bool)(hg:∀ x∈l,(g x).run=some (p x))(hl:l.length≤1000000000):(ql l g).run=some (PL.vE p 0 l):=by
 have key:(wT l g (l.length:Int) 0).run=some (if PL.vE p 0 l = -1 then .inl ()else .inr (PL.vE p 0 l)):=by
  refine PL.yS l (zb zV) p (fun i h hi hp => ?_) (fun i h hi hp => ?_) (fun i hi => ?_)
  ·have hm:=vi (d:=zb zV) h hi
   simp(disch:=omega) [qf,hi,hg _ hm,hp]
  ·have hm:=vi (d:=zb zV) h hi
   simp(disch:=omega) [qf,hi,hg _ hm,hp]
  ·simp[qf,hi]
 unfold ql
 rw[z6 key]
 split<;>rename_i h<;>simp[h]
def C9(sw:List Switch)(w:zf):Int:=PL.vE (fun s=>zF s.1 w) 0 sw
def KN(sw:List Switch)(on:List Bool)(w:zf):Bool:=if 0≤C9 sw w then nth on (C9 sw w) false else zF w []
theorem M3(sw:List Switch)(w:zf):C9 sw w = -1∨(0≤C9 sw w∧C9 sw w<sw.length):=EV _ sw
theorem Cb{α:Type}(p:α→Bool):∀ (l:List α) (i:Int),(∀ x∈l,p x=false)→PL.vE p i l = -1
 | [],_,_=>rfl
 | x::r,i,h=>by
  rw[iB,if_neg (by rw[h x List.mem_cons_self]; simp)]
  exact Cb p r (i+1) fun y hy=>h y (List.mem_cons_of_mem _ hy)
theorem TR(f:Form)(on:List Bool)(w:zf)(hl:f.1.length≤1000000000)(ho:on.length=f.1.length)(hn:∀ s∈f.1,s.1≠[]):(sV f on w).run=some (KN f.1 on w):=by
 have hi:=GN f.1 (fun z0=>kQ z0 w) (fun s=>zF s.1 w) (fun x _=>rfl) hl
 have hi:(ql f.1 (fun z0=>kQ z0 w)).run=some (C9 f.1 w):=hi
 have hr:=M3 f.1 w
 unfold sV KN
 rw[z6 hi,zc (fun _ h=>by
  have:=of_decide_eq_true h
  exact⟨this,by omega⟩),z7]
 congr 1
 by_cases c:0≤C9 f.1 w
 ·have hw:zF w []=false:=by
   rw[xH]
   refine decide_eq_false ?_
   rintro rfl
   have:C9 f.1 [] = -1:=Cb _ _ _ fun s hs=>by rw[xH]; exact decide_eq_false (hn s hs)
   omega
  rw[if_pos c,hw,decide_eq_true c,Bool.false_or,Bool.true_and]
  rfl
 ·rw[if_neg c,decide_eq_false c,Bool.false_and,Bool.or_false]
theorem z7y(f:Form)(on:List Bool)(w:zf)(hl:f.1.length≤1000000000)(ho:on.length=f.1.length):(Un f on w).run=some (KN f.1 on w):=by
 have key:∀ (m k:Nat),k+m=f.1.length→(ZY on w f (k:Int)).run=some (if PL.vE (fun s:Switch=>zF s.1 w) (k:Int) (f.1.drop k) = -1 then .inl ()else .inr (nth on (PL.vE (fun s:Switch=>zF s.1 w) (k:Int) (f.1.drop k)) false)):=by
  intro m
  induction m with
  | zero =>
   intro k hk
   have:k=f.1.length:=by omega
   subst this
   rw[List.drop_length]
   refine qh ?_
   unfold iD
   dsimp only
   rw[z8 (xi _),z7]
   rfl
  | succ m ih =>
   intro k hk
   have h1:k<f.1.length:=by omega
   rw[List.drop_eq_getElem_cons h1,iB]
   by_cases c:zF f.1[k].1 w=true
   ·rw[if_pos c,if_neg (by omega)]
    refine qh ?_
    unfold iD
    dsimp only
    rw[za (qL h1),zc (zo h1),qP h1,za c,zc (fun _=>zo (by omega)),z7,qL (show k<on.length by omega),Bool.true_and]
    rfl
   ·rw[if_neg c]
    refine(qI (s':=((k+1:Nat):Int)) ?_).trans (ih (k+1) (by omega))
    unfold iD
    dsimp only
    rw[za (qL h1),zc (zo h1),qP h1,z8 (by simpa using c),z7,vr k _ h1 (by omega)]
 have hk:=key f.1.length 0 (by omega)
 rw[List.drop_zero]at hk
 have hk:(ZY on w f (0:Int)).run=some (if C9 f.1 w = -1 then .inl ()else .inr (nth on (C9 f.1 w) false)):=hk
 have hr:=M3 f.1 w
 unfold Un KN
 rw[z6 hk]
 by_cases c:C9 f.1 w = -1
 ·rw[if_pos c,if_neg (by omega)]; rfl
 ·rw[if_neg c,if_pos (by omega)]; rfl
def Qj(q:Q):Bool:=vb (xn q)
def HU(c:AC):Bool:=Qj c.2||c.1.any fun t=>Qj t.2
theorem BA(l:List Term)(g:Term→T Bool)(p:Term→Bool)(hg:∀ x∈l,(g x).run=some (p x))(hl:l.length≤1000000000):(xb l g).run=some (l.any p):=by
 have key:(jB l g (l.length:Int) 0).run=some (if PL.vE p 0 l = -1 then .inl ()else .inr (PL.vE p 0 l)):=by
  refine PL.yS l (zb zq) p (fun i h hi hp => ?_) (fun i h hi hp => ?_) (fun i hi => ?_)
  ·have hm:=vi (d:=zb zq) h hi
   simp(disch:=omega) [xD,hi,hg _ hm,hp]
  ·have hm:=vi (d:=zb zq) h hi
   simp(disch:=omega) [xD,hi,hg _ hm,hp]
  ·simp[xD,hi]
 have hx:(wO l g).run=some (PL.vE p 0 l):=by
  unfold wO
  rw[z6 key]
  split<;>rename_i h<;>simp[h]
 unfold xb
 rw[z6 hx,z7,PL.eU _ _ _ (Int.le_refl 0)]
theorem DQ(s:Int)(c:AC)(hc:UO 1000000 c)(hl:c.1.length≤1000000):(oI (xh s c)).run=some (HU c):=by
 have hk:=yq (xn c.2) (xT (xa (by have:=hc.1; omega:xz c.2≤1000000)) (by omega))
 have ht:(xb (c.1.map qt) (fun z0=>vk z0)).run=some ((c.1.map qt).any fun t=>vb t.2.1):=by
  refine BA _ _ _ (fun x hx => ?_) (by rw[List.length_map]; omega)
  obtain⟨t,ht,rfl⟩:=List.mem_map.1 hx
  have:=yq (xn t.2) (xT (xa (by have:=hc.2 t ht; omega:xz t.2≤1000000)) (by omega))
  unfold vk
  show(T.bind (uO (xn t.2)) _).run=_
  rw[z6 this,z7]
  rfl
 unfold oI HU
 show(T.bind (uO (xn c.2)) _).run=_
 rw[z6 hk]
 cases h:vb (xn c.2)with
 | true=>rw[zA,z7]; unfold Qj; rw[h]; rfl
 | false =>
  rw[zr]
  show(T.bind (xb (c.1.map qt) (fun z0=>vk z0)) _).run=_
  rw[z6 ht,z7,List.any_map]
  unfold Qj
  rw[h]
  rfl
theorem JZ(s:Int)(c:AC)(hc:UO 1000000 c)(hl:c.1.length≤1000000):(oM (xh s c)).run=some (HU c):=by
 have hK:=ij (xn c.2) (xT (xa (by have:=hc.1; omega:xz c.2≤1000000)) (by omega))
 have key:∀ (m k:Nat),k+m=c.1.length→(mg (xh s c) (k:Int)).run=some (if(c.1.drop k).any (fun t=>Qj t.2)=true then .inr true else .inl ()):=by
  intro m
  induction m with
  | zero =>
   intro k hk
   have:k=c.1.length:=by omega
   subst this
   rw[List.drop_length]
   refine qh ?_
   unfold yI
   dsimp only
   rw[show(xh s c).2.1=c.1.map qt from rfl,List.length_map,z8 (xi _),z7]
   rfl
  | succ m ih =>
   intro k hk
   have h1:k<c.1.length:=by omega
   have pJ:k<(c.1.map qt).length:=by rw[List.length_map]; exact h1
   have hq:=hc.2 _ (List.getElem_mem h1)
   have hL:=ij (xn c.1[k].2) (xT (xa hq) (by omega))
   rw[List.drop_eq_getElem_cons h1,List.any_cons]
   have st:(yI (xh s c) (k:Int)).run=some (if Qj c.1[k].2=true then .inr (.inr true)else .inl ((k+1:Nat):Int)):=by
    unfold yI
    dsimp only
    rw[show(xh s c).2.1=c.1.map qt from rfl,za (by rw[List.length_map]; exact qL h1),zc (zo pJ),qP pJ,List.getElem_map]
    show(T.bind (ki (xn c.1[k].2)) _).run=_
    rw[z6 hL]
    unfold Qj
    cases vb (xn c.1[k].2)with
    | true=>rfl
    | false=>rw[zr,z7,vr k _ h1 (by omega)]; rfl
   cases q:Qj c.1[k].2 with
   | true =>
    rw[q,if_pos rfl]at st
    rw[Bool.true_or,if_pos rfl]
    exact qh st
   | false =>
    rw[q,if_neg (by simp)]at st
    rw[Bool.false_or]
    exact(qI st).trans (ih (k+1) (by omega))
 have hk:=key c.1.length 0 (by omega)
 rw[List.drop_zero]at hk
 have hk:(mg (xh s c) (0:Int)).run=_:=hk
 unfold oM HU
 rw[z6 hk]
 cases q:c.1.any fun t=>Qj t.2 with
 | true=>rw[if_pos rfl,Bool.or_true]; rfl
 | false =>
  rw[if_neg (by simp),Sum.elim_inl,Bool.or_false]
  show(T.bind (ki (xn c.2)) _).run=_
  rw[z6 hK,z7]
  rfl
inductive EL where
 | er (name:zf) (e:Int)
 | ok (l:List (AC×Int×Int))
def WU(v:zJ)(sw:List Switch)(on:List Bool):Nat→List uT→List (AC×Int×Int)→EL
 | _,[],acc=>.ok acc
 | k,r::rs,acc=>if KN sw on r.2.2.1=true then
   (if(kh v r.2.2.2.1 r.2.2.2.2.1).2≠0 then .er r.1 (kh v r.2.2.2.1 r.2.2.2.2.1).2 else WU v sw on (k+1) rs (acc++[((kh v r.2.2.2.1 r.2.2.2.2.1).1,(r.2.1,(k:Int)))]))
  else WU v sw on (k+1) rs acc
def uc(l:List (AC×Int×Int)):List wC:=l.map fun x=>xh x.2.1 x.1
def vo(l:List (AC×Int×Int)):List Int:=l.map fun x=>x.2.2
structure z7w(r:uT):Prop where
 a1:allOk r.2.2.2.1
 a2:allOk r.2.2.2.2.1
 n1:wu r.2.2.2.1≤100000
 n2:wu r.2.2.2.2.1≤100000
 b1:bkE r.2.2.2.1≤1000000000
 b2:bkE r.2.2.2.2.1≤1000000000
theorem Qu(l:List (AC×Int×Int)):(uc l).length=l.length:=List.length_map ..
theorem mD(l:List (AC×Int×Int)):(vo l).length=l.length:=List.length_map ..
theorem Yn(l:List (AC×Int×Int))(c:AC)(s k:Int):uc (l++[(c,(s,k))])=uc l++[xh s c]:=by unfold uc; rw[List.map_append]; rfl
theorem Gf(l:List (AC×Int×Int))(c:AC)(s k:Int):vo (l++[(c,(s,k))])=vo l++[k]:=by unfold vo; rw[List.map_append]; rfl
theorem Sv(f:Form)(on:List Bool)(v:zJ)(hv:gG v)(hl:f.1.length≤1000000000)(ho:on.length=f.1.length)(hn:∀ s∈f.1,s.1≠[])(hr:∀ r∈f.2.2.2.2.1,z7w r)(hrl:f.2.2.2.2.1.length≤1000000)(a0:qB) :
  ∀ (m k:Nat) (acc:List (AC×Int×Int)),k+m=f.2.2.2.2.1.length→acc.length≤k →
   match WU v f.1 on k (f.2.2.2.2.1.drop k) acc with
   | .ok l=>(kR on f f.2.2.2.2.1 (f.2.2.2.2.1.length:Int) ((k:Int),(a0,((),(v,(uc acc,vo acc)))))).run=some (.inl (a0,((),(v,(uc l,vo l)))))
   | .er nm e=>e≠0∧∃ z,(kR on f f.2.2.2.2.1 (f.2.2.2.2.1.length:Int) ((k:Int),(a0,((),(v,(uc acc,vo acc)))))).run=some (.inr (nm,(e,((([]:List wC),(([]:List Int),())),z)))):=by
 intro m
 induction m with
 | zero =>
  intro k acc hk ha
  have:k=f.2.2.2.2.1.length:=by omega
  subst this
  rw[List.drop_length]
  show(kR on f f.2.2.2.2.1 (f.2.2.2.2.1.length:Int) _).run=_
  refine qh ?_
  unfold uf
  dsimp only
  rw[z8 (xi _),ze _ rfl rfl rfl,ze _ rfl rfl rfl,zx _ rfl,zx _ rfl,z7]
 | succ m ih =>
  intro k acc hk ha
  have h1:k<f.2.2.2.2.1.length:=by omega
  have R0:=hr _ (List.getElem_mem h1)
  have DE:=TR f on f.2.2.2.2.1[k].2.2.1 hl ho hn
  have hsd:=FU hv f.2.2.2.2.1[k] R0.a1 R0.a2 R0.n1 R0.n2
  have cl:=Qu acc
  have rl:=mD acc
  rw[List.drop_eq_getElem_cons h1]
  unfold WU
  by_cases c:KN f.1 on f.2.2.2.2.1[k].2.2.1=true
  ·rw[if_pos c]
   by_cases e:(kh v f.2.2.2.2.1[k].2.2.2.1 f.2.2.2.2.1[k].2.2.2.2.1).2≠0
   ·rw[if_pos e]
    refine⟨e,((),(v,(uc acc,vo acc))),?_⟩
    refine qh ?_
    unfold uf
    dsimp only
    rw[za (qL h1),zc (zo h1),qP h1,z6 DE,z8 (by rw[c]; rfl),z6 hsd]
    generalize kh v f.2.2.2.2.1[k].2.2.2.1 f.2.2.2.2.1[k].2.2.2.2.1=S at e ⊢
    obtain⟨S1,S2⟩:=S
    rw[mT e]
    dsimp only at e ⊢
    rw[za (by simpa using e),ze _ rfl rfl rfl,ze _ rfl rfl rfl,zx _ rfl,zx _ rfl,z7]
   ·rw[if_neg e]
    have HE:=ih (k+1) (acc++[((kh v f.2.2.2.2.1[k].2.2.2.1 f.2.2.2.2.1[k].2.2.2.2.1).1,(f.2.2.2.2.1[k].2.1,(k:Int)))]) (by omega) (by rw[List.length_append,List.length_singleton]; omega)
    have st:(uf on f f.2.2.2.2.1 (f.2.2.2.2.1.length:Int) ((k:Int),(a0,((),(v,(uc acc,vo acc)))))).run=some (.inl (((k+1:Nat):Int),(a0,((),(v,(uc (acc++[((kh v f.2.2.2.2.1[k].2.2.2.1 f.2.2.2.2.1[k].2.2.2.2.1).1,(f.2.2.2.2.1[k].2.1,(k:Int)))]),vo (acc++[((kh v f.2.2.2.2.1[k].2.2.2.1 f.2.2.2.2.1[k].2.2.2.2.1).1,(f.2.2.2.2.1[k].2.1,(k:Int)))]))))))):=by
     rw[Yn,Gf]
     unfold uf
     dsimp only
     rw[za (qL h1),zc (zo h1),qP h1,z6 DE,z8 (by rw[c]; rfl),z6 hsd]
     generalize kh v f.2.2.2.2.1[k].2.2.2.1 f.2.2.2.2.1[k].2.2.2.2.1=S at e ⊢
     obtain⟨S1,S2⟩:=S
     have:S2=0:=by simpa using e
     subst this
     rw[Ul]
     dsimp only
     rw[z8 (by rfl),qT _ rfl rfl rfl (by omega),qT _ rfl rfl rfl (by omega),ze _ (by simp) rfl (by simp),ze _ (by simp) rfl (by simp),zx _ (by simp),zx _ (by simp),z7,vr k _ h1 (by omega)]
    cases w:WU v f.1 on (k+1) (f.2.2.2.2.1.drop (k+1)) (acc++[((kh v f.2.2.2.2.1[k].2.2.2.1 f.2.2.2.2.1[k].2.2.2.2.1).1,(f.2.2.2.2.1[k].2.1,(k:Int)))])with
    | ok l=>rw[w]at HE; exact(qI st).trans HE
    | er nm x=>rw[w]at HE; obtain⟨g1,z,g2⟩:=HE; exact⟨g1,z,(qI st).trans g2⟩
  ·rw[if_neg c]
   have HE:=ih (k+1) acc (by omega) (by omega)
   have st:(uf on f f.2.2.2.2.1 (f.2.2.2.2.1.length:Int) ((k:Int),(a0,((),(v,(uc acc,vo acc)))))).run=some (.inl (((k+1:Nat):Int),(a0,((),(v,(uc acc,vo acc)))))):=by
    unfold uf
    dsimp only
    rw[za (qL h1),zc (zo h1),qP h1,z6 DE,za (by rw[show KN f.1 on f.2.2.2.2.1[k].2.2.1=false by simpa using c]; rfl),ze _ rfl rfl rfl,ze _ rfl rfl rfl,zx _ rfl,zx _ rfl,z7,vr k _ h1 (by omega)]
   cases w:WU v f.1 on (k+1) (f.2.2.2.2.1.drop (k+1)) acc with
   | ok l=>rw[w]at HE; exact(qI st).trans HE
   | er nm x=>rw[w]at HE; obtain⟨g1,z,g2⟩:=HE; exact⟨g1,z,(qI st).trans g2⟩
theorem Hh(v:zJ)(sw:List Switch)(on:List Bool):∀ (rs:List uT) (k:Nat) (acc l:List (AC×Int×Int)),WU v sw on k rs acc=.ok l →
  ∃ l',l=acc++l'∧(∀ x∈l',∃ j,∃ h:j<rs.length,x=((kh v rs[j].2.2.2.1 rs[j].2.2.2.2.1).1,(rs[j].2.1,((k+j:Nat):Int)))∧(kh v rs[j].2.2.2.1 rs[j].2.2.2.2.1).2=0∧KN sw on rs[j].2.2.1=true) ∧
   ∀ j,∀ h:j<rs.length,KN sw on rs[j].2.2.1=true→((k+j:Nat):Int)∈vo l'
 | [],k,acc,l,h=>by
  have h:EL.ok acc=.ok l:=h
  injection h with h
  exact⟨[],by rw[List.append_nil,h],⟨fun x hx=>absurd hx List.not_mem_nil,fun j hj=>absurd hj (Nat.not_lt_zero j)⟩⟩
 | r::rs,k,acc,l,h=>by
  unfold WU at h
  by_cases c:KN sw on r.2.2.1=true
  ·rw[if_pos c]at h
   by_cases e:(kh v r.2.2.2.1 r.2.2.2.2.1).2≠0
   ·rw[if_pos e]at h; cases h
   ·rw[if_neg e]at h
    obtain⟨l',e1,e2,e3⟩:=Hh v sw on rs (k+1) _ l h
    refine⟨((kh v r.2.2.2.1 r.2.2.2.2.1).1,(r.2.1,(k:Int)))::l',by rw[e1,List.append_assoc]; rfl,fun x hx => ?_,fun j hj DE => ?_⟩
    ·rcases List.mem_cons.1 hx with rfl | hx
     ·exact⟨0,Nat.zero_lt_succ _,rfl,Classical.not_not.1 e,c⟩
     ·obtain⟨j,hj,q1,q2,q3⟩:=e2 x hx
      refine⟨j+1,Nat.succ_lt_succ hj,?_,q2,q3⟩
      rw[q1,show k+1+j=k+(j+1) by omega]
      rfl
    ·cases j with
     | zero=>exact List.mem_cons_self
     | succ j =>
      have:=e3 j (Nat.lt_of_succ_lt_succ hj) DE
      rw[show k+1+j=k+(j+1) by omega]at this
      exact List.mem_cons_of_mem _ this
  ·rw[if_neg c]at h
   obtain⟨l',e1,e2,e3⟩:=Hh v sw on rs (k+1) acc l h
   refine⟨l',e1,fun x hx => ?_,fun j hj DE => ?_⟩
   ·obtain⟨j,hj,q1,q2,q3⟩:=e2 x hx
    refine⟨j+1,Nat.succ_lt_succ hj,?_,q2,q3⟩
    rw[q1,show k+1+j=k+(j+1) by omega]
    rfl
   ·cases j with
    | zero=>exact absurd DE c
    | succ j =>
     have:=e3 j (Nat.lt_of_succ_lt_succ hj) DE
     rw[show k+1+j=k+(j+1) by omega]at this
     exact this
theorem Ys{v:zJ}{sw:List Switch}{on:List Bool}{rs:List uT}{l:List (AC×Int×Int)}(h:WU v sw on 0 rs []=.ok l)(j:Nat)(hj:j<rs.length):(j:Int)∈vo l↔KN sw on rs[j].2.2.1=true:=by
 obtain⟨l',e1,e2,e3⟩:=Hh v sw on rs 0 [] l h
 rw[List.nil_append]at e1
 subst e1
 constructor
 ·intro hm
  obtain⟨x,hx,ex⟩:=List.mem_map.1 hm
  obtain⟨i,hi,q1,-,q3⟩:=e2 x hx
  rw[q1]at ex
  have:i=j:=by have ex:((0+i:Nat):Int)=(j:Int):=ex; omega
  subst this
  exact q3
 ·intro DE
  have:=e3 j hj DE
  rwa [Nat.zero_add]at this
theorem z6F{v:zJ}{sw:List Switch}{on:List Bool}{rs:List uT}{l:List (AC×Int×Int)}(h:WU v sw on 0 rs []=.ok l):∀ x∈l,∃ j,∃ h:j<rs.length,x=((kh v rs[j].2.2.2.1 rs[j].2.2.2.2.1).1,(rs[j].2.1,(j:Int)))∧(kh v rs[j].2.2.2.1 rs[j].2.2.2.2.1).2=0:=by
 obtain⟨l',e1,e2,e3⟩:=Hh v sw on rs 0 [] l h
 rw[List.nil_append]at e1
 subst e1
 intro x hx
 obtain⟨j,hj,q1,q2,-⟩:=e2 x hx
 rw[Nat.zero_add]at q1
 exact⟨j,hj,q1,q2⟩
theorem Gm{α:Type}(p:α→Bool):∀ (l:List α) (i:Int) (k:Nat) (hk:k<l.length),p l[k]=true→(∀ j (hj:j<k),p (l[j]'(by omega))=false)→PL.vE p i l=i+k
 | [],_,_,hk,_,_=>absurd hk (Nat.not_lt_zero _)
 | x::r,i,0,_,h,_=>by
  have h:p x=true:=h
  rw[iB,if_pos h]; omega
 | x::r,i,k+1,hk,h,hn=>by
  have h0:=hn 0 (Nat.zero_lt_succ _)
  rw[iB,if_neg (by rw[show p x=false from h0]; simp)]
  have:=Gm p r (i+1) k (Nat.lt_of_succ_lt_succ hk) h (fun j hj=>hn (j+1) (Nat.succ_lt_succ hj))
  rw[this]; omega
theorem Lx{α:Type}(p:α→Bool):∀ (l:List α) (i:Int),PL.vE p i l = -1∨∃ k:Nat,∃ h:k<l.length,PL.vE p i l=i+k∧p l[k]=true
 | [],_=>.inl rfl
 | x::r,i=>by
  rw[iB]
  by_cases c:p x=true
  ·rw[if_pos c]; exact .inr ⟨0,Nat.zero_lt_succ _,by omega,c⟩
  ·rw[if_neg c]
   rcases Lx p r (i+1)with h | ⟨k,hk,h1,h2⟩
   ·exact .inl h
   ·exact .inr ⟨k+1,Nat.succ_lt_succ hk,by rw[h1]; omega,h2⟩
theorem SZ{l:List zf}(h:l.Nodup){i j:Nat}(hi:i<l.length)(hj:j<l.length)(e:l[i]=l[j]):i=j:=by
 rw[List.nodup_iff_pairwise_ne,List.pairwise_iff_getElem]at h
 rcases Nat.lt_trichotomy i j with q | q | q
 ·exact absurd e (h i j hi hj q)
 ·exact q
 ·exact absurd e.symm (h j i hj hi q)
theorem Td{sw:List Switch}(h:(sw.map (·.1)).Nodup){k:Nat}(hk:k<sw.length)(w:zf):(C9 sw w=(k:Int))↔zF w sw[k].1=true:=by
 rw[xH,decide_eq_true_eq]
 constructor
 ·intro e
  rcases Lx (fun s:Switch=>zF s.1 w) sw 0 with q | ⟨j,hj,q1,q2⟩
  ·unfold C9 at e; omega
  ·unfold C9 at e
   have:j=k:=by omega
   subst this
   rw[xH,decide_eq_true_eq]at q2
   exact q2.symm
 ·rintro rfl
  have:=Gm (fun s:Switch=>zF s.1 sw[k].1) sw 0 k hk (by rw[xH]; exact decide_eq_true rfl) (fun j hj=>by
   rw[xH]
   refine decide_eq_false fun q => ?_
   have:=SZ h (i:=j) (j:=k) (by rw[List.length_map]; omega) (by rw[List.length_map]; omega) (by rw[List.getElem_map,List.getElem_map]; exact q)
   omega)
  unfold C9
  rw[this]; omega
theorem OL{sw:List Switch}(h:(sw.map (·.1)).Nodup){on:List Bool}(hl:on.length=sw.length){k:Nat}(hk:k<sw.length)(b:Bool)(hb:b = !(nth on (k:Int) false))(w:zf) :
  (KN sw on w != KN sw (on.set k b) w)=zF w sw[k].1:=by
 have yh:k<on.length:=by omega
 unfold KN
 by_cases c:C9 sw w=(k:Int)
 ·rw[(Td h hk w).1 c,c,if_pos (by omega),if_pos (by omega),hb]
  unfold nth
  rw[Int.toNat_natCast,List.getD_eq_getElem?_getD,List.getD_eq_getElem?_getD,List.getElem?_set_self yh]
  cases(on[k]?).getD false<;>rfl
 ·have hf:zF w sw[k].1=false:=by
   cases q:zF w sw[k].1 with
   | true=>exact absurd ((Td h hk w).2 q) c
   | false=>rfl
  rw[hf]
  by_cases c0:0≤C9 sw w
  ·rw[if_pos c0,if_pos c0]
   unfold nth
   rw[List.getD_eq_getElem?_getD,List.getD_eq_getElem?_getD,List.getElem?_set_ne (by omega),bne_self_eq_false]
  ·rw[if_neg c0,if_neg c0,bne_self_eq_false]
theorem TQ(f:Form)(on:List Bool)(v:zJ)(hv:gG v)(hl:f.1.length≤1000000000)(ho:on.length=f.1.length)(hr:∀ r∈f.2.2.2.2.1,z7w r)(hrl:f.2.2.2.2.1.length≤1000000) :
  ∀ (m k:Nat) (acc:List (AC×Int×Int)),k+m=f.2.2.2.2.1.length→acc.length≤k →
   match WU v f.1 on k (f.2.2.2.2.1.drop k) acc with
   | .ok l=>(kK on f ((k:Int),(v,(uc acc,vo acc)))).run=some (.inl (v,(uc l,vo l)))
   | .er nm e=>∃ z,(kK on f ((k:Int),(v,(uc acc,vo acc)))).run=some (.inr (nm,(e,z))):=by
 intro m
 induction m with
 | zero =>
  intro k acc hk ha
  have:k=f.2.2.2.2.1.length:=by omega
  subst this
  rw[List.drop_length]
  show(kK on f _).run=_
  refine qh ?_
  unfold ub
  dsimp only
  rw[z8 (xi _),ze _ rfl rfl rfl,ze _ rfl rfl rfl,zx _ rfl,zx _ rfl,z7]
 | succ m ih =>
  intro k acc hk ha
  have h1:k<f.2.2.2.2.1.length:=by omega
  have R0:=hr _ (List.getElem_mem h1)
  have DE:=z7y f on f.2.2.2.2.1[k].2.2.1 hl ho
  have hsd:=H8 hv f.2.2.2.2.1[k] R0.a1 R0.a2 R0.n1 R0.n2 R0.b1 R0.b2
  have cl:=Qu acc
  have rl:=mD acc
  rw[List.drop_eq_getElem_cons h1]
  unfold WU
  by_cases c:KN f.1 on f.2.2.2.2.1[k].2.2.1=true
  ·rw[if_pos c]
   by_cases e:(kh v f.2.2.2.2.1[k].2.2.2.1 f.2.2.2.2.1[k].2.2.2.2.1).2≠0
   ·rw[if_pos e]
    refine⟨(v,(uc acc,vo acc)),?_⟩
    refine qh ?_
    unfold ub
    dsimp only
    rw[za (qL h1),zc (zo h1),qP h1,z6 DE,z8 (by rw[c]; rfl),zc (zo h1),z6 hsd]
    generalize kh v f.2.2.2.2.1[k].2.2.2.1 f.2.2.2.2.1[k].2.2.2.2.1=S at e ⊢
    obtain⟨S1,S2⟩:=S
    rw[mT e]
    dsimp only at e ⊢
    rw[za (by simpa using e),zc (zo h1),zx _ rfl,zx _ rfl,z7]
   ·rw[if_neg e]
    have HE:=ih (k+1) (acc++[((kh v f.2.2.2.2.1[k].2.2.2.1 f.2.2.2.2.1[k].2.2.2.2.1).1,(f.2.2.2.2.1[k].2.1,(k:Int)))]) (by omega) (by rw[List.length_append,List.length_singleton]; omega)
    have st:(ub on f ((k:Int),(v,(uc acc,vo acc)))).run=some (.inl (((k+1:Nat):Int),(v,(uc (acc++[((kh v f.2.2.2.2.1[k].2.2.2.1 f.2.2.2.2.1[k].2.2.2.2.1).1,(f.2.2.2.2.1[k].2.1,(k:Int)))]),vo (acc++[((kh v f.2.2.2.2.1[k].2.2.2.1 f.2.2.2.2.1[k].2.2.2.2.1).1,(f.2.2.2.2.1[k].2.1,(k:Int)))]))))):=by
     rw[Yn,Gf]
     unfold ub
     dsimp only
     rw[za (qL h1),zc (zo h1),qP h1,z6 DE,z8 (by rw[c]; rfl),zc (zo h1),z6 hsd]
     generalize kh v f.2.2.2.2.1[k].2.2.2.1 f.2.2.2.2.1[k].2.2.2.2.1=S at e ⊢
     obtain⟨S1,S2⟩:=S
     have:S2=0:=by simpa using e
     subst this
     rw[Ul]
     dsimp only
     rw[z8 (by rfl),qT _ rfl rfl rfl (by omega),qT _ rfl rfl rfl (by omega),ze _ (by simp) rfl (by simp),ze _ (by simp) rfl (by simp),zx _ (by simp),zx _ (by simp),z7,vr k _ h1 (by omega)]
    cases w:WU v f.1 on (k+1) (f.2.2.2.2.1.drop (k+1)) (acc++[((kh v f.2.2.2.2.1[k].2.2.2.1 f.2.2.2.2.1[k].2.2.2.2.1).1,(f.2.2.2.2.1[k].2.1,(k:Int)))])with
    | ok l=>rw[w]at HE; exact(qI st).trans HE
    | er nm x=>rw[w]at HE; obtain⟨z,g2⟩:=HE; exact⟨z,(qI st).trans g2⟩
  ·rw[if_neg c]
   have HE:=ih (k+1) acc (by omega) (by omega)
   have st:(ub on f ((k:Int),(v,(uc acc,vo acc)))).run=some (.inl (((k+1:Nat):Int),(v,(uc acc,vo acc)))):=by
    unfold ub
    dsimp only
    rw[za (qL h1),zc (zo h1),qP h1,z6 DE,za (by rw[show KN f.1 on f.2.2.2.2.1[k].2.2.1=false by simpa using c]; rfl),ze _ rfl rfl rfl,ze _ rfl rfl rfl,zx _ rfl,zx _ rfl,z7,vr k _ h1 (by omega)]
   cases w:WU v f.1 on (k+1) (f.2.2.2.2.1.drop (k+1)) acc with
   | ok l=>rw[w]at HE; exact(qI st).trans HE
   | er nm x=>rw[w]at HE; obtain⟨z,g2⟩:=HE; exact⟨z,(qI st).trans g2⟩
def VS(rs:List uT):List (AC×Int×Int)→Option zf
 | []=>none
 | x::r=>if HU x.1=true then some (nth rs x.2.2 (zb zn)).1 else VS rs r
structure LOk(rs:List uT)(l:List (AC×Int×Int)):Prop where
 len:l.length≤1000000
 sz:∀ x∈l,UO 1000000 x.1∧x.1.1.length≤1000000∧0≤x.2.2∧x.2.2<(rs.length:Int)
theorem XG(l:List (AC×Int×Int)){k:Nat}(h:k<l.length):xj (uc l) (0+Int.toNat (k:Int)) (zb zZ)=xh l[k].2.1 l[k].1:=by
 unfold xj uc
 rw[Nat.zero_add,Int.toNat_natCast,List.getD_eq_getElem?_getD,List.getElem?_map,List.getElem?_eq_getElem h]
 rfl
theorem CI(l:List (AC×Int×Int)){k:Nat}(h:k<l.length):xj (vo l) (0+Int.toNat (k:Int)) (zb (.int .i64))=l[k].2.2:=by
 unfold xj vo
 rw[Nat.zero_add,Int.toNat_natCast,List.getD_eq_getElem?_getD,List.getElem?_map,List.getElem?_eq_getElem h]
 rfl
theorem TD(f:Form)(a0:qB)(v:zJ)(l:List (AC×Int×Int))(hl:LOk f.2.2.2.2.1 l):∀ (m k:Nat),k+m=l.length →
  (nS f ((uc l).length:Int) ((k:Int),(a0,((),(v,(uc l,vo l)))))).run=some (match VS f.2.2.2.2.1 (l.drop k)with
   | none=>.inl (a0,((),(v,(uc l,vo l))))
   | some nm=>.inr (nm,((8:Int),((([]:List wC),(([]:List Int),())),((),(v,(uc l,vo l))))))):=by
 have cl:=Qu l
 have rl:=mD l
 intro m
 induction m with
 | zero =>
  intro k hk
  have:k=l.length:=by omega
  subst this
  rw[List.drop_length]
  refine qh ?_
  unfold b9
  dsimp only
  rw[z8 (by rw[cl]; exact xi _),ze _ rfl rfl rfl,ze _ rfl rfl rfl,zx _ rfl,zx _ rfl,z7]
  rfl
 | succ m ih =>
  intro k hk
  have h1:k<l.length:=by omega
  obtain⟨s1,s2,s3,s4⟩:=hl.sz _ (List.getElem_mem h1)
  have hL:=DQ l[k].2.1 l[k].1 s1 s2
  have hlen:=hl.len
  rw[List.drop_eq_getElem_cons h1]
  unfold VS
  by_cases c:HU l[k].1=true
  ·rw[if_pos c]
   refine qh ?_
   unfold b9
   dsimp only
   rw[za (by rw[cl]; exact qL h1),zc (zo (by omega)),zc (eI.2 ⟨rfl,by rw[Nat.zero_add,Int.toNat_natCast]; omega⟩),XG l h1,z6 hL,za c,zc (zo (by omega)),zc (eI.2 ⟨rfl,by rw[Nat.zero_add,Int.toNat_natCast]; omega⟩),CI l h1,zc ⟨s3,s4⟩,ze _ rfl rfl rfl,ze _ rfl rfl rfl,zx _ rfl,zx _ rfl,z7]
  ·rw[if_neg c]
   refine(qI (s':=(((k+1:Nat):Int),(a0,((),(v,(uc l,vo l)))))) ?_).trans (ih (k+1) (by omega))
   unfold b9
   dsimp only
   rw[za (by rw[cl]; exact qL h1),zc (zo (by omega)),zc (eI.2 ⟨rfl,by rw[Nat.zero_add,Int.toNat_natCast]; omega⟩),XG l h1,z6 hL,z8 (by simpa using c),ze _ rfl rfl rfl,ze _ rfl rfl rfl,ze _ rfl rfl rfl,zx _ rfl,zx _ rfl,z7,vr k _ h1 (by omega)]
theorem MW(f:Form)(v:zJ)(l:List (AC×Int×Int))(hl:LOk f.2.2.2.2.1 l):∀ (m k:Nat),k+m=l.length →
  (nQ f ((k:Int),(v,(uc l,vo l)))).run=some (match VS f.2.2.2.2.1 (l.drop k)with
   | none=>.inl (v,(uc l,vo l))
   | some nm=>.inr (nm,((8:Int),(v,(uc l,vo l))))):=by
 have cl:=Qu l
 have rl:=mD l
 intro m
 induction m with
 | zero =>
  intro k hk
  have:k=l.length:=by omega
  subst this
  rw[List.drop_length]
  refine qh ?_
  unfold bQ
  dsimp only
  rw[z8 (by rw[cl]; exact xi _),ze _ rfl rfl rfl,ze _ rfl rfl rfl,zx _ rfl,zx _ rfl,z7]
  rfl
 | succ m ih =>
  intro k hk
  have h1:k<l.length:=by omega
  obtain⟨s1,s2,s3,s4⟩:=hl.sz _ (List.getElem_mem h1)
  have hL:=JZ l[k].2.1 l[k].1 s1 s2
  have hlen:=hl.len
  rw[List.drop_eq_getElem_cons h1]
  unfold VS
  by_cases c:HU l[k].1=true
  ·rw[if_pos c]
   refine qh ?_
   unfold bQ
   dsimp only
   rw[za (by rw[cl]; exact qL h1),zc (zo (by omega)),zc (eI.2 ⟨rfl,by rw[Nat.zero_add,Int.toNat_natCast]; omega⟩),XG l h1,z6 hL,za c,zc (zo (by omega)),zc (eI.2 ⟨rfl,by rw[Nat.zero_add,Int.toNat_natCast]; omega⟩),CI l h1,zc ⟨s3,s4⟩,zx _ rfl,zx _ rfl,z7]
  ·rw[if_neg c]
   refine(qI (s':=(((k+1:Nat):Int),(v,(uc l,vo l)))) ?_).trans (ih (k+1) (by omega))
   unfold bQ
   dsimp only
   rw[za (by rw[cl]; exact qL h1),zc (zo (by omega)),zc (eI.2 ⟨rfl,by rw[Nat.zero_add,Int.toNat_natCast]; omega⟩),XG l h1,z6 hL,z8 (by simpa using c),ze _ rfl rfl rfl,ze _ rfl rfl rfl,zx _ rfl,zx _ rfl,z7,vr k _ h1 (by omega)]
def vF(f:Form)(ps:List Rat):zJ:=(f.2.2.2.1.map (·.1),(f.2.1.map (·.1),(ps,())))
theorem PE(f:Form)(ps:List Rat)(h:FS f)(CA:ps.length≤1000000000):(XK f ps).run=some (vF f ps):=by
 have hn:=h.n
 have key:=T.nd (r:=di f) f.2.1 (zb zX) (fun(b:List zf) i=>(i,(([]:List Rat),()),ps,(f.2.2.2.1.map (·.1),()),[],[],b)) (fun k b=>b.length=k) (fun b x=>b++[x.1])
  (fun b=>((([]:List Rat),()),ps,(f.2.2.2.1.map (·.1),()),[],[],b)) (fun k b x hk hx hm hI => ?_) (fun b hI => ?_) (b:=[]) rfl
 ·obtain⟨k1,k2⟩:=key
  rw[ZZ,List.nil_append]at k1 k2
  have k1:(Vn f ((0:Int),((([]:List Rat),()),(ps,((f.2.2.2.1.map (·.1),()),(([]:List zf),(([]:List zf),([]:List zf)))))))).run=some ((([]:List Rat),()),ps,(f.2.2.2.1.map (·.1),()),[],[],f.2.1.map (·.1)):=k1
  unfold XK
  rw[z6 (nJ f h),qT _ rfl rfl rfl (by omega),ze _ rfl rfl rfl,ze _ rfl rfl rfl,zc (by omega),ze _ rfl rfl rfl,ze _ (by omega) rfl (by omega),T.zk,T.zk,T.zk,z6 k1,T.zk,T.zk,z7,Nat.zero_add,List.take_length,List.drop_zero,Nat.zero_add,List.take_length,List.drop_zero]
  rfl
 ·refine⟨?_,by simp; omega⟩
  unfold di
  dsimp only
  rw[za (qL hk),zc (zo hk),hx,qT _ rfl rfl rfl (by omega),ze _ rfl rfl rfl,ze _ rfl rfl rfl,T.zk,ze _ (by simp) rfl (by simp),ze _ rfl rfl rfl,T.zk,T.zk,zc (by simp),z7,vr k _ hk (by omega)]
 ·unfold di
  dsimp only
  rw[z8 (xi _)]
  rw[ze _ rfl rfl rfl,ze _ rfl rfl rfl,T.zk,ze _ rfl rfl rfl,ze _ rfl rfl rfl,T.zk,T.zk,T.zk,z7]
theorem Ek(l:List Rat)(g:Rat→T Bool)(p:Rat→Bool)(hg:∀ x∈l,(g x).run=some (p x))(hl:l.length≤1000000000):(xf l g).run=some (l.any p):=by
 have key:(jK l g (l.length:Int) 0).run=some (if PL.vE p 0 l = -1 then .inl ()else .inr (PL.vE p 0 l)):=by
  refine PL.yS l (zb zI) p (fun i h hi hp => ?_) (fun i h hi hp => ?_) (fun i hi => ?_)
  ·have hm:=vi (d:=zb zI) h hi
   simp(disch:=omega) [xJ,hi,hg _ hm,hp]
  ·have hm:=vi (d:=zb zI) h hi
   simp(disch:=omega) [xJ,hi,hg _ hm,hp]
  ·simp[xJ,hi]
 have hx:(wX l g).run=some (PL.vE p 0 l):=by
  unfold wX
  rw[z6 key]
  split<;>rename_i h<;>simp[h]
 unfold xf
 rw[z6 hx,z7,PL.eU _ _ _ (Int.le_refl 0)]
def X3(a:Rat):Bool := !(dP a && !vb a)
theorem z7x(a:Rat)(h:xd 100 a):(wL a).run=some (X3 a):=by
 unfold wL X3
 rw[z6 (nY a (xT h (by omega)))]
 cases dP a with
 | false=>rw[za (by rfl),z7]; rfl
 | true=>rw[z8 (by rfl),z6 (yq a (xT h (by omega))),z7]; cases vb a<;>rfl
theorem Fo(ps:List Rat)(h:∀ x∈ps,xd 100 x)(hl:ps.length≤1000000000)(on:List Bool)(f:Form):(oR ps on f (0:Int)).run=some (if ps.any X3=true then .inr (([]:zf),(1:Int))else .inl ()):=by
 have key:∀ (m k:Nat),k+m=ps.length→(oR ps on f (k:Int)).run=some (if(ps.drop k).any X3=true then .inr (([]:zf),(1:Int))else .inl ()):=by
  intro m
  induction m with
  | zero =>
   intro k hk
   have:k=ps.length:=by omega
   subst this
   rw[List.drop_length]
   refine qh ?_
   unfold bh
   rw[z8 (xi _),z7]
   rfl
  | succ m ih =>
   intro k hk
   have h1:k<ps.length:=by omega
   have hG:=mf _ (xT (h _ (List.getElem_mem h1)) (by omega))
   rw[List.drop_eq_getElem_cons h1,List.any_cons]
   cases q:X3 ps[k]with
   | true =>
    rw[Bool.true_or,if_pos rfl]
    refine qh ?_
    unfold bh
    rw[za (qL h1),zc (zo h1),qP h1,z6 hG,za (show(!(dP ps[k] && !vb ps[k]))=true from q),z7]
   | false =>
    rw[Bool.false_or]
    refine(qI (s':=((k+1:Nat):Int)) ?_).trans (ih (k+1) (by omega))
    unfold bh
    rw[za (qL h1),zc (zo h1),qP h1,z6 hG,z8 (show(!(dP ps[k] && !vb ps[k]))=false from q),z7,vr k _ h1 (by omega)]
 have:=key ps.length 0 (by omega)
 rwa [List.drop_zero]at this
def Oy(f:Form)(ps:List Rat)(on:List Bool):EL :=
 if(B4 f).1≠0 then .er (B4 f).2 (B4 f).1
 else if ps.length≠f.2.1.length∨on.length≠f.1.length then .er [] 1
 else if ps.any X3=true then .er [] 1
 else match WU (vF f ps) f.1 on 0 f.2.2.2.2.1 []with
  | .er n e=>.er n e
  | .ok l=>match VS f.2.2.2.2.1 l with
   | some n=>.er n 8
   | none=>.ok l
def Mq:EL→qB×zf×Int
 | .er n e=>((([]:List wC),(([]:List Int),())),(n,e))
 | .ok l=>((uc l,(vo l,())),(([]:zf),(0:Int)))
def z8k:EL→List wC×List Int×zf×Int
 | .er n e=>(([]:List wC),(([]:List Int),(n,e)))
 | .ok l=>(uc l,(vo l,(([]:zf),(0:Int))))
theorem Sg{f:Form}(h:FS f){ps:List Rat}(hp:ps.length=f.2.1.length)(ho:∀ x∈ps,xd 100 x):gG (vF f ps):=by
 have hn:=h.n
 exact⟨by show(f.2.2.2.1.map (·.1)).length≤_; rw[List.length_map]; omega,by show(f.2.1.map (·.1)).length≤_; rw[List.length_map]; omega,by show ps.length≤_; omega,ho⟩
theorem J5{f:Form}(h:FS f):∀ r∈f.2.2.2.2.1,z7w r:=fun r hr=>by
 obtain⟨-,-,ha,hb⟩:=h.r r hr
 have:=Ue ha
 have:=Ue hb
 have:=jF ha
 have:=jF hb
 exact⟨ha.2,hb.2,by omega,by omega,by omega,by omega⟩
theorem U4{f:Form}(h:FS f){v:zJ}(hv:gG v){on:List Bool}{l:List (AC×Int×Int)}(e:WU v f.1 on 0 f.2.2.2.2.1 []=.ok l):LOk f.2.2.2.2.1 l:=by
 have hn:=h.n
 refine⟨?_,fun x hx => ?_⟩
 ·have:∀ (rs:List uT) (k:Nat) (acc l:List (AC×Int×Int)),WU v f.1 on k rs acc=.ok l→l.length≤acc.length+rs.length:=by
   intro rs
   induction rs with
   | nil=>intro k acc l e; injection (show EL.ok acc=.ok l from e)with e; subst e; exact Nat.le_add_right _ _
   | cons r rs ih =>
    intro k acc l e
    unfold WU at e
    rw[List.length_cons]
    split at e
    ·split at e
     ·cases e
     ·have:=ih _ _ _ e; rw[List.length_append,List.length_singleton]at this; omega
    ·have:=ih _ _ _ e; omega
  have:=this _ _ _ _ e
  simp only[List.length_nil]at this
  omega
 ·obtain⟨j,hj,q,-⟩:=z6F e x hx
  have hr:=J5 h _ (List.getElem_mem hj)
  have hs:=z1X hv f.2.2.2.2.1[j].2.2.2.1 f.2.2.2.2.1[j].2.2.2.2.1 hr.a1 hr.a2
  rw[q]
  exact⟨uv hs.sz (by omega),Nat.le_trans hs.len (by omega),by show(0:Int)≤(j:Int); omega,by show(j:Int)<_; omega⟩
theorem zb9{f:Form}(h:(B4 f).1=0):∀ s∈f.1,s.1≠[]:=fun s hs e=>by
 obtain⟨hI,-⟩:=PB h
 have:=Zx hI s.1 (by unfold su; simp only[List.mem_append]; exact .inl (.inl (.inl (.inl (.inl (List.mem_map.2 ⟨s,hs,rfl⟩))))))
 rw[e]at this
 cases this
theorem JP(f:Form)(h:FS f)(ps:List Rat)(on:List Bool)(CA:∀ x∈ps,xd 100 x):(cp f ps on).run=some (Mq (Oy f ps on)):=by
 have hn:=h.n
 unfold cp Oy
 rw[z6 (Ew f h)]
 have hsn := @zb9 f
 generalize B4 f=S at *
 obtain⟨e,nm⟩:=S
 dsimp only at hsn ⊢
 by_cases c:e≠0
 ·rw[if_pos c,za (by simpa using c),z7]; rfl
 ·have c0:e=0:=by simpa using c
  subst c0
  rw[if_neg c,z8 (by rfl)]
  by_cases c1:ps.length≠f.2.1.length∨on.length≠f.1.length
  ·rw[if_pos c1]
   have mid:(T.ite ((Nat.cast (List.length ps):Int) != (Nat.cast (List.length f.2.1):Int))
      (.ret (true,(([]:List wC),(([]:List Int),()))))
      (.ite ((Nat.cast (List.length on):Int) != (Nat.cast (List.length f.1):Int))
        (.ret (true,(([]:List wC),(([]:List Int),()))))
        (T.bind (xf ps (fun z0=>wL z0)) fun r =>
         .ret (r,(([]:List wC),(([]:List Int),()))))):T ((Bool×qB))).run=some (true,(([]:List wC),(([]:List Int),()))):=by
    by_cases c2:ps.length≠f.2.1.length
    ·rw[za (by rw[bne_iff_ne]; omega),z7]
    ·rw[z8 (by rw[bne_eq_false_iff_eq]; omega),za (by rw[bne_iff_ne]; omega),z7]
   rw[z6 mid]
   dsimp only
   rw[zA,z7]; rfl
  ·have c2:ps.length=f.2.1.length:=by omega
   have c3:on.length=f.1.length:=by omega
   rw[if_neg c1]
   have mid:(T.ite ((Nat.cast (List.length ps):Int) != (Nat.cast (List.length f.2.1):Int))
      (.ret (true,(([]:List wC),(([]:List Int),()))))
      (.ite ((Nat.cast (List.length on):Int) != (Nat.cast (List.length f.1):Int))
        (.ret (true,(([]:List wC),(([]:List Int),()))))
        (T.bind (xf ps (fun z0=>wL z0)) fun r =>
         .ret (r,(([]:List wC),(([]:List Int),()))))):T ((Bool×qB))).run=some (ps.any X3,(([]:List wC),(([]:List Int),()))):=by
    rw[z8 (by rw[bne_eq_false_iff_eq]; omega),z8 (by rw[bne_eq_false_iff_eq]; omega),z6 (Ek ps (fun z0=>wL z0) X3 (fun x hx=>z7x x (CA x hx)) (by omega)),z7]
   rw[z6 mid]
   dsimp only
   cases q:ps.any X3 with
   | true=>rw[if_pos rfl,zA,z7]; rfl
   | false =>
    rw[if_neg (by decide),zr]
    have hv:=Sg h c2 CA
    have k0:=Sv f on (vF f ps) hv (by omega) c3 (hsn rfl) (J5 h) (by omega) (([]:List wC),(([]:List Int),())) f.2.2.2.2.1.length 0 [] (by omega) (Nat.le_refl _)
    have hr:(sE f ps).run=some (vF f ps):=z0W f ps (by omega) (by omega) (by omega)
    rw[z6 hr,ze _ rfl rfl rfl,ze _ rfl rfl rfl,T.zk,T.zk]
    rw[List.drop_zero]at k0
    have hlk := @U4 f h (vF f ps) hv on
    cases w:WU (vF f ps) f.1 on 0 f.2.2.2.2.1 []with
    | er n x =>
     rw[w]at k0
     obtain⟨-,z,k0⟩:=k0
     have k0:(kR on f f.2.2.2.2.1 (f.2.2.2.2.1.length:Int) ((0:Int),((([]:List wC),(([]:List Int),())),((),(vF f ps,(([]:List wC),([]:List Int))))))).run=_:=k0
     rw[z6 k0]
     rfl
    | ok l =>
     rw[w]at k0
     have hlk:=hlk w
     have k0:(kR on f f.2.2.2.2.1 (f.2.2.2.2.1.length:Int) ((0:Int),((([]:List wC),(([]:List Int),())),((),(vF f ps,(([]:List wC),([]:List Int))))))).run=_:=k0
     have k1:=TD f (([]:List wC),(([]:List Int),())) (vF f ps) l hlk l.length 0 (by omega)
     rw[List.drop_zero]at k1
     have k1:(nS f ((uc l).length:Int) ((0:Int),((([]:List wC),(([]:List Int),())),((),(vF f ps,(uc l,vo l)))))).run=_:=k1
     rw[z6 k0,Sum.elim_inl]
     dsimp only
     rw[ze _ rfl rfl rfl,ze _ rfl rfl rfl,ze _ rfl rfl rfl,T.zk,T.zk,z6 k1]
     cases VS f.2.2.2.2.1 l with
     | some n=>rfl
     | none =>
      dsimp only
      rw[Sum.elim_inl]
      dsimp only
      rw[T.zk,T.zk,z7,dt,dt]
      rfl
theorem Oc(f:Form)(h:FS f)(ps:List Rat)(on:List Bool)(CA:∀ x∈ps,xd 100 x):(fh f ps on).run=some (z8k (Oy f ps on)):=by
 have hn:=h.n
 unfold fh Oy
 rw[z6 (VF f h)]
 generalize B4 f=S at *
 obtain⟨e,nm⟩:=S
 dsimp only
 by_cases c:e≠0
 ·rw[if_pos c,za (by simpa using c),z7]; rfl
 ·have c0:e=0:=by simpa using c
  subst c0
  rw[if_neg c,z8 (by rfl)]
  by_cases c1:ps.length≠f.2.1.length∨on.length≠f.1.length
  ·rw[if_pos c1,za (by rw[Bool.or_eq_true,bne_iff_ne,bne_iff_ne]; omega),z7]; rfl
  ·have c2:ps.length=f.2.1.length:=by omega
   have c3:on.length=f.1.length:=by omega
   rw[if_neg c1,z8 (by rw[Bool.or_eq_false_iff,bne_eq_false_iff_eq,bne_eq_false_iff_eq]; omega),z6 (Fo ps CA (by omega) on f)]
   cases q:ps.any X3 with
   | true=>rw[if_pos rfl,if_pos rfl]; rfl
   | false =>
    rw[if_neg (by decide),if_neg (by decide),Sum.elim_inl]
    have hv:=Sg h c2 CA
    have k0:=TQ f on (vF f ps) hv (by omega) c3 (J5 h) (by omega) f.2.2.2.2.1.length 0 [] (by omega) (Nat.le_refl _)
    rw[z6 (PE f ps h (by omega)),ze _ rfl rfl rfl,ze _ rfl rfl rfl,T.zk,T.zk]
    rw[List.drop_zero]at k0
    have hlk := @U4 f h (vF f ps) hv on
    cases w:WU (vF f ps) f.1 on 0 f.2.2.2.2.1 []with
    | er n x =>
     rw[w]at k0
     obtain⟨z,k0⟩:=k0
     have k0:(kK on f ((0:Int),(vF f ps,(([]:List wC),([]:List Int))))).run=_:=k0
     rw[z6 k0]
     rfl
    | ok l =>
     rw[w]at k0
     have hlk:=hlk w
     have k0:(kK on f ((0:Int),(vF f ps,(([]:List wC),([]:List Int))))).run=_:=k0
     have k1:=MW f (vF f ps) l hlk l.length 0 (by omega)
     rw[List.drop_zero]at k1
     have k1:(nQ f ((0:Int),(vF f ps,(uc l,vo l)))).run=_:=k1
     rw[z6 k0,Sum.elim_inl]
     dsimp only
     rw[ze _ rfl rfl rfl,ze _ rfl rfl rfl,T.zk,T.zk,z6 k1]
     cases VS f.2.2.2.2.1 l with
     | some n=>rfl
     | none =>
      dsimp only
      rw[Sum.elim_inl]
      dsimp only
      rw[T.zk,T.zk,z7,dt,dt]
      rfl
def W1(e:Expr):Prop:=allOk e∧bkE e≤300*wu e
theorem sW:WA eC:=⟨kW,kW,by show(0:Nat)≤100; omega,by show(0:Nat)≤100; omega⟩
theorem Ww(k:Int)(n:Rat)(s:zf)(hn:WA n)(hs:s.length≤24):W1 (.mk k n s []):=by
 refine⟨⟨hn,trivial⟩,?_⟩
 have h3:=hn.2.2.1
 have h4:=hn.2.2.2
 show 1+((1+((List.length n.2.1+1)+((List.length n.2.2.1+1)+1)))+((List.length s+1)+((0+1)+1)))≤300*(1+0)
 omega
theorem Fj(k:Int){a b:Expr}(h:W1 a)(h2:W1 b):W1 (z3t k [a,b]):=by
 refine⟨⟨sW,h.1,h2.1,trivial⟩,?_⟩
 show 1+((1+((0+1)+((0+1)+1)))+((0+1)+(((bkE a+(bkE b+0))+1)+1)))≤300*(1+(wu a+(wu b+0)))
 have:=h.2
 have:=h2.2
 omega
theorem Me:zH 2=[2]:=by rw[y6 (by omega),show 2 / 4294967296=0 from rfl,qA]; rfl
theorem Oz:z05 [50]=(false,[2],[1],()):=by
 have e:z1Z [50]=some (2,1):=by decide +kernel
 unfold z05
 rw[e]
 show kO _ 2 1=_
 unfold kO
 rw[if_neg (by decide),show 2 / Nat.gcd 2 1=2 from rfl,show 1 / Nat.gcd 2 1=1 from rfl,Me,Vf]
 rfl
def UB(s:zf):Expr:=.mk 2 eC s []
theorem Pr:norm (false,[2],[1],())=(false,[2],[1],()):=by
 rw[← Oz]
 have e:z1Z [50]=some (2,1):=by decide +kernel
 have:z05 [50]=kO (List.isPrefixOf [45] [50]) 2 1:=by
  unfold z05
  rw[e]
  rfl
 rw[this]
 exact Nj _ _ _
theorem z3d:bY (z05 [50])=true:=by
 rw[Oz]
 unfold bY dP vb gF
 rw[Pr]
 show(((zH 2==[2])&&((zH 1==[1])&&_))&&_)=true
 rw[Me,Vf]
 rfl
theorem NF{n:Rat}(h:bY n=true):dP n=true∧n.1=false∧vb n=false∧(xP (norm n).1 (nv (norm n).2.1) (nv (norm n).2.2.1) 0 61).2=true:=by
 unfold bY at h
 simp only[Bool.and_eq_true,Bool.not_eq_true']at h
 exact⟨h.1,h.2.1,h.2.2.1,h.2.2.2⟩
theorem lF(e:Expr)(left:Int)(h0 : -100000000000≤left)(h1:left≤600)(hb:bkE e≤1000000000):(kG e left).run=some (wtE e left):=by
 unfold kG
 refine kS (fun x:Expr×Int => -100000000000≤x.2∧x.2≤600∧bkE x.1≤1000000000) (fun x=>bkE x.1) (fun x=>wtE x.1 x.2) (fun x hx g hg => ?_) (x:=(e,left)) ⟨h0,h1,hb⟩
 obtain⟨e,left⟩:=x
 obtain⟨h0,h1,hx⟩:=hx
 simp only at hx hg h0 h1
 have hk:=gq e
 have Ev:=iJ e.kids
 have loop:∀ acc:Int,-1000000000000≤acc→acc≤600→(se (fun y0 y1=>g (y0,y1)) e (acc,0)).run=some (wtEs e.kids acc):=by
  intro acc a1 a2
  refine mW e.kids (zb .expr) (fun b i=>(b,i)) (fun b r=>b≤600∧∀ x∈r,x∈e.kids) (fun r b=>wtEs r b) ?_ ?_ ⟨a2,fun x hx=>hx⟩
  ·rintro b x xs i hi0 hi hx ⟨b1,b2⟩
   by_cases H7:0≤b
   ·have hm:=hO (b2 x List.mem_cons_self)
    have hr:=hg (x,b) ⟨by simp only; omega,b1,by simp only; omega⟩ (by simp only; omega)
    simp only at hr
    have:=(Wj x b).1
    refine .inl ⟨wtE x b,?_,⟨by omega,fun y hy=>b2 y (List.mem_cons_of_mem _ hy)⟩,?_⟩
    ·simp(disch:=omega) [kA,hi,hx,H7,hr]
    ·simp[wtEs,H7]
   ·right
    have hw:wtEs (x::xs) b=b:=Sp _ _ H7
    simp[kA,hi,H7,hw]
  ·rintro b _
   simp[kA,wtEs]
 unfold cO
 cases e with | mk k n s kids =>
 simp only[Expr.kids,Expr.name,Expr.num,bkE]at *
 have hL:=loop (left-3-s.length-8*n.2.1.length-8*n.2.2.1.length) (by omega) (by omega)
 rw[zN (x:=left-3) (by omega) (by omega),zN (x:=left-3-s.length) (by omega) (by omega),zN (x:=8*(n.2.1.length:Int)) (by omega) (by omega),zN (x:=left-3-s.length-8*n.2.1.length) (by omega) (by omega),
  zN (x:=8*(n.2.2.1.length:Int)) (by omega) (by omega),zN (by omega) (by omega),z6 hL,z7]
 rfl
theorem C5(f:Form)(h:FB f):∃ b,(cg f).run=some b∧(b=false→FL f∧∀ x∈f.2.2.2.2.1,szE x.2.2.2.1+szE x.2.2.2.2.1≤600):=by
 obtain⟨Sy,iM,hl3,hl4,hl5,hl6,hs,hp,hg,hd,hr,hc⟩:=h
 unfold cg
 have e0:zt ((600:Int)-(zt ((20:Int)*(zt ((zt ((zt ((zt ((zt ((f.1.length:Int)+(f.2.1.length:Int)))+(f.2.2.1.length:Int)))+(f.2.2.2.1.length:Int)))+(f.2.2.2.2.1.length:Int)))+(f.2.2.2.2.2.1.length:Int)))))) =
   600-20*((f.1.length+f.2.1.length+f.2.2.1.length+f.2.2.2.1.length+f.2.2.2.2.1.length+f.2.2.2.2.2.1.length:Nat):Int):=by
  rw[zN (x:=(f.1.length:Int)+(f.2.1.length:Int)) (by omega) (by omega),zN (x:=(f.1.length:Int)+(f.2.1.length:Int)+(f.2.2.1.length:Int)) (by omega) (by omega),zN (x:=(f.1.length:Int)+(f.2.1.length:Int)+(f.2.2.1.length:Int)+(f.2.2.2.1.length:Int)) (by omega) (by omega),
   zN (x:=(f.1.length:Int)+(f.2.1.length:Int)+(f.2.2.1.length:Int)+(f.2.2.2.1.length:Int)+(f.2.2.2.2.1.length:Int)) (by omega) (by omega),zN (x:=(f.1.length:Int)+(f.2.1.length:Int)+(f.2.2.1.length:Int)+(f.2.2.2.1.length:Int)+(f.2.2.2.2.1.length:Int)+(f.2.2.2.2.2.1.length:Int)) (by omega) (by omega),
   zN (x:=20*_) (by omega) (by omega),zN (by omega) (by omega)]
  omega
 rw[e0]
 obtain⟨N,hN⟩:∃ N,f.1.length+f.2.1.length+f.2.2.1.length+f.2.2.2.1.length+f.2.2.2.2.1.length+f.2.2.2.2.2.1.length=N:=⟨_,rfl⟩
 rw[hN]
 obtain⟨n1,r1,a1,b1,P1⟩:=cr (r:=yC f) f.2.1.length iM (fun k=>∀ hk:k<f.2.1.length,f.2.1[k].1.length≤600∧f.2.1[k].2.1.2.1.length≤75∧f.2.1[k].2.1.2.2.1.length≤75) (fun n k hk h0 h6=>by
  obtain⟨q1,q2,q3,_⟩:=hp _ (List.getElem_mem hk)
  refine⟨n-8*f.2.1[k].2.1.2.1.length-8*f.2.1[k].2.1.2.2.1.length-f.2.1[k].1.length,?_,by omega,by omega,fun h0 _=>⟨by omega,by omega,by omega⟩⟩
  unfold yC
  dsimp only
  rw[za (YO hk h0),zc (zo hk),zc (zo hk),zc (zo hk),z7,qP hk,vr k _ hk (by omega),zN (x:=8*(f.2.1[k].2.1.2.1.length:Int)) (by omega) (by omega),zN (x:=8*(f.2.1[k].2.1.2.2.1.length:Int)) (by omega) (by omega),
   zN (x:=n-_) (by omega) (by omega),zN (x:=n-_-_) (by omega) (by omega),zN (by omega) (by omega)])
  (fun n k hk=>by unfold yC; dsimp only; rw[z8 (Gg hk),z7]) (600-20*(N:Int)) (by omega) (by omega)
 obtain⟨n2,r2,a2,b2,P2⟩:=cr (r:=yJ f) f.1.length Sy (fun k=>∀ hk:k<f.1.length,f.1[k].1.length≤600) (fun n k hk h0 h6=>by
  have q1:=hs _ (List.getElem_mem hk)
  refine⟨n-f.1[k].1.length,?_,by omega,by omega,fun h0 _=>by omega⟩
  unfold yJ
  dsimp only
  rw[za (YO hk h0),zc (zo hk),z7,qP hk,vr k _ hk (by omega),zN (by omega) (by omega)])
  (fun n k hk=>by unfold yJ; dsimp only; rw[z8 (Gg hk),z7]) n1 a1 (by omega)
 obtain⟨n3,r3,a3,b3,P3⟩:=cr (r:=yl f) f.2.2.1.length hl3 (fun k=>∀ hk:k<f.2.2.1.length,f.2.2.1[k].1.length≤600∧f.2.2.1[k].2.1.length≤600) (fun n k hk h0 h6=>by
  obtain⟨q1,q2⟩:=hg _ (List.getElem_mem hk)
  refine⟨n-f.2.2.1[k].1.length-f.2.2.1[k].2.1.length,?_,by omega,by omega,fun h0 _=>⟨by omega,by omega⟩⟩
  unfold yl
  dsimp only
  rw[za (YO hk h0),zc (zo hk),zc (zo hk),z7,qP hk,vr k _ hk (by omega),zN (x:=n-_) (by omega) (by omega),zN (by omega) (by omega)])
  (fun n k hk=>by unfold yl; dsimp only; rw[z8 (Gg hk),z7]) n2 a2 (by omega)
 obtain⟨n4,r4,a4,b4,P4⟩:=cr (r:=yu f) f.2.2.2.1.length hl4 (fun k=>∀ hk:k<f.2.2.2.1.length,f.2.2.2.1[k].1.length≤600) (fun n k hk h0 h6=>by
  have q1:=hd _ (List.getElem_mem hk)
  refine⟨n-f.2.2.2.1[k].1.length,?_,by omega,by omega,fun h0 _=>by omega⟩
  unfold yu
  dsimp only
  rw[za (YO hk h0),zc (zo hk),z7,qP hk,vr k _ hk (by omega),zN (by omega) (by omega)])
  (fun n k hk=>by unfold yu; dsimp only; rw[z8 (Gg hk),z7]) n3 a3 (by omega)
 obtain⟨n5,r5,a5,b5,P5⟩:=cr (r:=yO f) f.2.2.2.2.1.length hl5 (fun k=>∀ hk:k<f.2.2.2.2.1.length,f.2.2.2.2.1[k].1.length≤600∧f.2.2.2.2.1[k].2.2.1.length≤600∧szE f.2.2.2.2.1[k].2.2.2.1≤600∧szE f.2.2.2.2.1[k].2.2.2.2.1≤600∧szE f.2.2.2.2.1[k].2.2.2.1+szE f.2.2.2.2.1[k].2.2.2.2.1≤600) (fun n k hk h0 h6=>by
  obtain⟨q1,q2,q3,q4⟩:=hr _ (List.getElem_mem hk)
  have m1:=Wj f.2.2.2.2.1[k].2.2.2.1 (n-f.2.2.2.2.1[k].1.length-f.2.2.2.2.1[k].2.2.1.length)
  have m2:=Wj f.2.2.2.2.1[k].2.2.2.2.1 (wtE f.2.2.2.2.1[k].2.2.2.1 (n-f.2.2.2.2.1[k].1.length-f.2.2.2.2.1[k].2.2.1.length))
  have s1:=J2 f.2.2.2.2.1[k].2.2.2.1 (n-f.2.2.2.2.1[k].1.length-f.2.2.2.2.1[k].2.2.1.length)
  have s2:=J2 f.2.2.2.2.1[k].2.2.2.2.1 (wtE f.2.2.2.2.1[k].2.2.2.1 (n-f.2.2.2.2.1[k].1.length-f.2.2.2.2.1[k].2.2.1.length))
  have w1:=lF f.2.2.2.2.1[k].2.2.2.1 (n-f.2.2.2.2.1[k].1.length-f.2.2.2.2.1[k].2.2.1.length) (by omega) (by omega) (by omega)
  have w2:=lF f.2.2.2.2.1[k].2.2.2.2.1 (wtE f.2.2.2.2.1[k].2.2.2.1 (n-f.2.2.2.2.1[k].1.length-f.2.2.2.2.1[k].2.2.1.length)) (by omega) (by omega) (by omega)
  refine⟨wtE f.2.2.2.2.1[k].2.2.2.2.1 (wtE f.2.2.2.2.1[k].2.2.2.1 (n-f.2.2.2.2.1[k].1.length-f.2.2.2.2.1[k].2.2.1.length)),?_,by omega,by omega,fun h0 _ => ?_⟩
  ·unfold yO
   dsimp only
   rw[za (YO hk h0),zc (zo hk),zc (zo hk),zc (zo hk),zc (zo hk),qP hk,vr k _ hk (by omega),zN (x:=n-_) (by omega) (by omega),zN (x:=n-_-_) (by omega) (by omega),z6 w1,z6 w2,z7]
  ·have t2:=s2 h0
   have t1:=s1 (by omega)
   exact⟨by omega,by omega,by omega,by omega,by omega⟩)
  (fun n k hk=>by unfold yO; dsimp only; rw[z8 (Gg hk),z7]) n4 a4 (by omega)
 obtain⟨n6,r6,a6,b6,P6⟩:=cr (r:=yB f) f.2.2.2.2.2.1.length hl6 (fun k=>∀ hk:k<f.2.2.2.2.2.1.length,f.2.2.2.2.2.1[k].1.length≤600∧szE f.2.2.2.2.2.1[k].2.2.2.1≤600∧szE f.2.2.2.2.2.1[k].2.2.2.2.1≤600) (fun n k hk h0 h6=>by
  obtain⟨q1,q3,q4⟩:=hc _ (List.getElem_mem hk)
  have m1:=Wj f.2.2.2.2.2.1[k].2.2.2.1 (n-f.2.2.2.2.2.1[k].1.length)
  have m2:=Wj f.2.2.2.2.2.1[k].2.2.2.2.1 (wtE f.2.2.2.2.2.1[k].2.2.2.1 (n-f.2.2.2.2.2.1[k].1.length))
  have s1:=J2 f.2.2.2.2.2.1[k].2.2.2.1 (n-f.2.2.2.2.2.1[k].1.length)
  have s2:=J2 f.2.2.2.2.2.1[k].2.2.2.2.1 (wtE f.2.2.2.2.2.1[k].2.2.2.1 (n-f.2.2.2.2.2.1[k].1.length))
  have w1:=lF f.2.2.2.2.2.1[k].2.2.2.1 (n-f.2.2.2.2.2.1[k].1.length) (by omega) (by omega) (by omega)
  have w2:=lF f.2.2.2.2.2.1[k].2.2.2.2.1 (wtE f.2.2.2.2.2.1[k].2.2.2.1 (n-f.2.2.2.2.2.1[k].1.length)) (by omega) (by omega) (by omega)
  refine⟨wtE f.2.2.2.2.2.1[k].2.2.2.2.1 (wtE f.2.2.2.2.2.1[k].2.2.2.1 (n-f.2.2.2.2.2.1[k].1.length)),?_,by omega,by omega,fun h0 _ => ?_⟩
  ·unfold yB
   dsimp only
   rw[za (YO hk h0),zc (zo hk),zc (zo hk),zc (zo hk),qP hk,vr k _ hk (by omega),zN (x:=n-_) (by omega) (by omega),z6 w1,z6 w2,z7]
  ·have t2:=s2 h0
   have t1:=s1 (by omega)
   exact⟨by omega,by omega,by omega⟩)
  (fun n k hk=>by unfold yB; dsimp only; rw[z8 (Gg hk),z7]) n5 a5 (by omega)
 have r1:(Z8 f (600-20*(N:Int),0)).run=some n1:=r1
 have r2:(Z2 f (n1,0)).run=some n2:=r2
 have r3:(Zr f (n2,0)).run=some n3:=r3
 have r4:(Zt f (n3,0)).run=some n4:=r4
 have r5:(Zk f (n4,0)).run=some n5:=r5
 have r6:(Z0 f (n5,0)).run=some n6:=r6
 rw[z6 r1,z6 r2,z6 r3,z6 r4,z6 r5,z6 r6,z7]
 refine⟨_,rfl,fun hb => ?_⟩
 have h0:0≤n6:=by have:=of_decide_eq_false hb; omega
 have R5:∀ x∈f.2.2.2.2.1,x.1.length≤600∧x.2.2.1.length≤600∧szE x.2.2.2.1≤600∧szE x.2.2.2.2.1≤600∧szE x.2.2.2.1+szE x.2.2.2.2.1≤600:=Ws fun k hk=>P5 (by omega) k hk hk
 exact⟨⟨by omega,Ws fun k hk=>P2 (by omega) k hk hk,Ws fun k hk=>P1 (by omega) k hk hk,Ws fun k hk=>P3 (by omega) k hk hk,Ws fun k hk=>P4 (by omega) k hk hk,fun x hx=>⟨(R5 x hx).1,(R5 x hx).2.1,(R5 x hx).2.2.1,(R5 x hx).2.2.2.1⟩,Ws fun k hk=>P6 (by omega) k hk hk⟩,fun x hx=>(R5 x hx).2.2.2.2⟩
theorem Fa(l:List Rat)(hl:l.length≤4000000000000):∃ b,(fe l).run=some b∧(b=false→∀ x∈l,x.2.1.length≤3∧x.2.2.1.length≤3):=by
 have:=T.xg (r:=gT l) (fun s:Int×Int=>∃ k:Nat,s.2=(k:Int)∧k≤l.length∧∀ x∈l.take k,x.2.1.length≤3∧x.2.2.1.length≤3) (fun s=>l.length-s.2.toNat)
  (fun z:Unit⊕Bool=>z=.inr true∨(z=.inl ()∧∀ x∈l,x.2.1.length≤3∧x.2.2.1.length≤3)) (fun s hs => ?_) (s:=(0,0)) ⟨0,rfl,by omega,by simp⟩
 ·obtain⟨z,h1,h2⟩:=this
  have h1:(Xg l (0,0)).run=some z:=h1
  unfold fe
  rw[z6 h1]
  rcases h2 with rfl | ⟨rfl,h2⟩
  ·exact⟨true,rfl,fun h=>by cases h⟩
  ·exact⟨false,rfl,fun _=>h2⟩
 ·obtain⟨n,i⟩:=s
  obtain⟨k,rfl,hk,hI⟩:=hs
  by_cases c:k<l.length
  ·unfold gT
   simp only
   rw[za (qL c),zc (zo c),zc (zo c),zc (fun _=>⟨zo c,fun _=>zo c⟩)]
   have hx:nth l (k:Int) (zb zI)=l[k]:=by simp[nth,c]
   rw[hx]
   generalize decide ((100:Int)<zt (zt (zt (n+1)+((l[k]).2.1.length:Int))+((l[k]).2.2.1.length:Int)))=b
   cases hb:(b||(decide ((3:Int)<((l[k]).2.1.length:Int))||decide ((3:Int)<((l[k]).2.2.1.length:Int))))with
   | true=>right; exact⟨_,rfl,.inl rfl⟩
   | false =>
    simp only[Bool.or_eq_false_iff,decide_eq_false_iff_not]at hb
    left
    refine⟨_,rfl,⟨k+1,vr k _ c hl,c,fun x hx => ?_⟩,?_⟩
    ·rw[List.take_succ_eq_append_getElem c]at hx
     rcases List.mem_append.1 hx with hx | hx
     ·exact hI x hx
     ·have:x=l[k]:=by simpa using hx
      subst this; omega
    ·simp only[vr k _ c hl]; omega
  ·have Ev:k=l.length:=by omega
   right
   refine⟨.inl (),?_,.inr ⟨rfl,?_⟩⟩
   ·unfold gT
    simp only
    rw[z8 (decide_eq_false (by omega)),z7]
   ·rw[Ev,List.take_length]at hI; exact hI
theorem Zz{q:Q}(h:xz q≤16):Qj q=false:=by
 have h1:=wV q
 have h2:=wj q
 unfold Qj vb
 rw[xw,vI,Bool.or_eq_false_iff,decide_eq_false_iff_not,decide_eq_false_iff_not]
 rw[jG,eH]
 omega
abbrev R2:Rat:=(false,(([2]:List Int),(([1]:List Int),())))
theorem YZ:xn (2:Q)=R2:=by
 show(decide ((2:Q).num<0),(zH 2,(zH 1,())))=R2
 rw[Me,Vf]
 rfl
theorem z6Q:val R2=2:=by rw[← YZ,vI]
theorem Er:xz (2:Q)≤16:=by
 unfold xz
 show max (zH 2).length (zH 1).length≤16
 rw[Me,Vf]
 decide
def eM:Expr:=z3t 5 [UB [97],UB [112]]
def f9:Form:=(([]:List Switch),(([(([112]:zf),(R2,()))]:List Param),(([(([113]:zf),(([]:zf),()))]:List rV),(([(([97]:zf),((0:Int),(false,((0:Int),())))),(([98]:zf),((0:Int),(false,((0:Int),()))))]:List Field),(([(([114]:zf),((0:Int),(([]:zf),(eM,(UB [98],())))))]:List uT),(([]:List Check),()))))))
theorem z1B:W1 eM:=Fj 5 (Ww 2 eC _ sW (by simp)) (Ww 2 eC _ sW (by simp))
theorem z3i:W1 (UB [98]):=Ww 2 eC _ sW (by simp)
theorem zas:FS f9:=by
 refine⟨by decide,fun x hx=>absurd hx List.not_mem_nil,fun x hx => ?_,fun x hx => ?_,fun x hx => ?_,fun x hx => ?_,fun x hx=>absurd hx List.not_mem_nil⟩
 ·rw[List.mem_singleton.1 hx]
  refine⟨by show 1≤600; omega,?_,?_,by show 1≤100; omega,by show 1≤100; omega⟩
  ·rw[← YZ]; exact(xa (Nat.le_refl _)).1
  ·rw[← YZ]; exact(xa (Nat.le_refl _)).2.1
 ·rw[List.mem_singleton.1 hx]; exact⟨by show 1≤600; omega,by show 0≤600; omega⟩
 ·rcases List.mem_cons.1 hx with rfl | hx
  ·show 1≤600; omega
  ·rw[List.mem_singleton.1 hx]; show 1≤600; omega
 ·rw[List.mem_singleton.1 hx]
  exact⟨by show 1≤600; omega,by show 0≤600; omega,⟨by decide,z1B.1⟩,by decide,z3i.1⟩
theorem z8V:ep (norm R2)=[50]:=by
 rw[Pr]
 unfold ep
 rw[if_pos (by decide)]
 show Lw false++pr 2=[50]
 unfold pr
 rw[if_neg (by decide),tf (by decide),show 2 / 10=0 from rfl,rH]
 rfl
theorem z4O:(frS f9).length≤16384:=by
 have h1:(Fp ([112],(R2,()))).length≤100:=by unfold Fp; rw[z8V]; decide
 have e:frS f9=([]++(Fp ([112],(R2,()))++[])++(List.range 1).flatMap (Ia f9))++(Iq ([114],(0,([],(eM,(UB [98],())))))++[]):=rfl
 have h2:((List.range 1).flatMap (Ia f9)).length≤1000:=by decide +kernel
 have h3:(Iq ([114],(0,([],(eM,(UB [98],())))))).length≤1000:=by decide +kernel
 rw[e]
 simp only[List.length_append,List.length_nil]
 omega
theorem Md:dP R2=true∧vb R2=false:=by
 have:=NF z3d
 rw[Oz]at this
 exact⟨this.1,this.2.2.1⟩
theorem z9S:pH f9=true:=by
 have h2:a2 f9=true:=by
  show(!(fT ([112],(R2,()))||false))=true
  unfold fT
  rw[Md.1,Md.2]
  rfl
 unfold pH
 rw[h2,decide_eq_true (by have:=z4O; omega)]
 decide +kernel
theorem zcb:B4 f9=(0,[]):=by
 unfold B4
 rw[if_pos z9S,show(tn [] (su f9)).2=false by decide +kernel,if_neg (by decide),show Ob f9=none by decide +kernel,show Ot f9=none by decide +kernel,show lnF f9=none by decide +kernel]
 rfl
def l9:List (AC×Int×Int):=[(([(0,2),(1,-1)],0),(0,0))]
theorem z3m:kh (vF f9 [R2]) eM (UB [98])=(([(0,2),(1,-1)],0),0):=by
 have n1:mB (vF f9 [R2]) [97]=(([(0,1)],0),0):=by decide +kernel
 have n3:mB (vF f9 [R2]) [98]=(([(1,1)],0),0):=by decide +kernel
 have n2:mB (vF f9 [R2]) [112]=(([],2),0):=by
  show(if 0≤PL.vE (zF [112]) 0 [[97],[98]]then _ else if PL.vE (zF [112]) 0 [[112]]<0 then(VN,5)else(([],tS [R2] (PL.vE (zF [112]) 0 [[112]])),0))=_
  rw[if_neg (by decide +kernel),if_neg (by decide +kernel)]
  show((([]:List (Int×Q)),val R2),(0:Int))=_
  rw[z6Q]
 have o1:Qz (vF f9 [R2]) eM=(([(0,2)],0),0):=by
  unfold Qz
  rw[if_pos (by decide +kernel)]
  show z7b 5 [mB (vF f9 [R2]) [97],mB (vF f9 [R2]) [112]]=_
  rw[n1,n2]
  decide +kernel
 have o2:Qz (vF f9 [R2]) (UB [98])=(([(1,1)],0),0):=by
  unfold Qz
  rw[if_pos (by decide +kernel)]
  exact n3
 unfold kh
 rw[o1,o2]
 decide +kernel
theorem zbU:Oy f9 [R2] []=.ok l9:=by
 have hr:WU (vF f9 [R2]) f9.1 [] 0 f9.2.2.2.2.1 []=.ok l9:=by
  show(if KN [] [] []=true then(if(kh (vF f9 [R2]) eM (UB [98])).2≠0 then EL.er [114] (kh (vF f9 [R2]) eM (UB [98])).2 else EL.ok ([]++[((kh (vF f9 [R2]) eM (UB [98])).1,((0:Int),((0:Nat):Int)))]))else EL.ok [])=_
  rw[if_pos (by decide +kernel),z3m]
  rfl
 have hb:VS f9.2.2.2.2.1 l9=none:=by
  show(if HU ([(0,2),(1,-1)],0)=true then _ else none)=none
  have:HU ([(0,2),(1,-1)],0)=false:=by
   show(Qj 0||(Qj 2||(Qj (-1)||false)))=false
   rw[Zz (q:=0) (by rw[tz]; omega),Zz Er,Zz (q := -1) (by rw[cP]; omega)]
   rfl
  rw[this]; rfl
 unfold Oy
 rw[zcb,if_neg (by decide),if_neg (by decide),if_neg (by
  show ¬ (X3 R2||false)=true
  unfold X3
  rw[Md.1,Md.2]; decide),hr]
 dsimp only
 rw[hb]
theorem J0:c7.run=some true:=by
 have h2:(wa (2:Int)).run=some R2:=by rw[← YZ]; exact gW 2 ⟨by omega,by omega⟩
 have hE:=JP f9 zas [R2] [] (fun x hx=>by rw[List.mem_singleton.1 hx,← YZ]; exact xa (Nat.le_trans Er (by omega)))
 rw[zbU]at hE
 have hS:(fc (xn 2) R2).run=some true:=by
  have h:=xa (Nat.le_trans Er (by omega:16≤100000))
  rw[← YZ]
  exact RU _ _ h h rfl
 unfold c7
 rw[z6 h2,z6 h2]
 refine(z6 (show(cp f9 [R2] []).run=_ from hE) _).trans ?_
 show(T.ite true (T.ite (zF [] []) (T.ite true (.zd _<|.ite true (.zd _<|.zd _<|T.bind (wa (2:Int)) fun r3=>T.bind (fc (xn 2) r3) fun r4=>.ite r4 (.ret true) (.ret false)) (.ret false)) (.ret false)) (.ret false)) (.ret false)).run=_
 rw[zA,za (EM _),zA,zc ⟨by decide,by decide⟩,zA,zc ⟨by decide,by decide⟩,zc ⟨by decide,by decide⟩,z6 h2,z6 hS,zA,z7]
theorem Ry{f:Form}{ps:List Rat}{on:List Bool}{l:List (AC×Int×Int)}(h:Oy f ps on=.ok l):(B4 f).1=0∧ps.length=f.2.1.length∧on.length=f.1.length∧WU (vF f ps) f.1 on 0 f.2.2.2.2.1 []=.ok l∧VS f.2.2.2.2.1 l=none:=by
 unfold Oy at h
 by_cases c:(B4 f).1≠0
 ·rw[if_pos c]at h; cases h
 ·rw[if_neg c]at h
  by_cases c1:ps.length≠f.2.1.length∨on.length≠f.1.length
  ·rw[if_pos c1]at h; cases h
  ·rw[if_neg c1]at h
   by_cases c2:ps.any X3=true
   ·rw[if_pos c2]at h; cases h
   ·rw[if_neg c2]at h
    cases w:WU (vF f ps) f.1 on 0 f.2.2.2.2.1 []with
    | er n e=>rw[w]at h; cases h
    | ok m =>
     rw[w]at h
     dsimp only at h
     cases hb:VS f.2.2.2.2.1 m with
     | some n=>rw[hb]at h; cases h
     | none =>
      rw[hb]at h
      injection h with h
      subst h
      exact⟨Classical.not_not.1 c,by omega,by omega,rfl,hb⟩
theorem E9{v:zJ}{sw:List Switch}{on:List Bool}:∀ {rs:List uT} {k:Nat} {acc:List (AC×Int×Int)} {n:zf} {e:Int},WU v sw on k rs acc=.er n e→e≠0
 | [],_,_,_,_,h=>by cases h
 | r::rs,k,acc,n,e,h=>by
  unfold WU at h
  by_cases c:KN sw on r.2.2.1=true
  ·rw[if_pos c]at h
   by_cases q:(kh v r.2.2.2.1 r.2.2.2.2.1).2≠0
   ·rw[if_pos q]at h; injection h with h1 h2; subst h2; exact q
   ·rw[if_neg q]at h; exact E9 h
  ·rw[if_neg c]at h; exact E9 h
theorem Ti{f:Form}{ps:List Rat}{on:List Bool}{n:zf}{e:Int}(h:Oy f ps on=.er n e):e≠0:=by
 unfold Oy at h
 by_cases c:(B4 f).1≠0
 ·rw[if_pos c]at h; injection h with h1 h2; subst h2; exact c
 ·rw[if_neg c]at h
  by_cases c1:ps.length≠f.2.1.length∨on.length≠f.1.length
  ·rw[if_pos c1]at h; injection h with h1 h2; subst h2; decide
  ·rw[if_neg c1]at h
   by_cases c2:ps.any X3=true
   ·rw[if_pos c2]at h; injection h with h1 h2; subst h2; decide
   ·rw[if_neg c2]at h
    cases w:WU (vF f ps) f.1 on 0 f.2.2.2.2.1 []with
    | er n' e'=>rw[w]at h; injection h with h1 h2; subst h2; exact E9 w
    | ok m =>
     rw[w]at h
     dsimp only at h
     cases hb:VS f.2.2.2.2.1 m with
     | some n=>rw[hb]at h; injection h with h1 h2; subst h2; decide
     | none=>rw[hb]at h; cases h
theorem MA(l:List Rat)(hw:∀ x∈l,zu x.2.1∧zu x.2.2.1)(hl:l.length≤4000000000000):∃ b,(fe l).run=some b∧(b=false→∀ x∈l,xd 100 x):=by
 obtain⟨b,h1,h2⟩:=Fa l hl
 exact⟨b,h1,fun h x hx=>⟨(hw x hx).1,(hw x hx).2,by have:=h2 h x hx; omega,by have:=h2 h x hx; omega⟩⟩
theorem looked9(f:Form)(hw:wf zG f)(hb:bk zG f≤1048576):∃ b,(cg f).run=some b∧(b=false→FS f):=by
 obtain⟨b,hr,hf⟩:=C5 f (z4f hw hb)
 exact⟨b,hr,fun h=>z9F hw (z4f hw hb) (hf h).1⟩
theorem Lv(l:List Int)(n:Int)(hl:l.length≤1000000):(rv l n).run=some (decide (n∈l)):=by
 have key:∀ (m k:Nat),k+m=l.length→(pR l n (k:Int)).run=some (if n∈l.drop k then .inr true else .inl ()):=by
  intro m
  induction m with
  | zero =>
   intro k hk
   have:k=l.length:=by omega
   subst this
   rw[List.drop_length,if_neg List.not_mem_nil]
   refine qh ?_
   unfold gp
   rw[z8 (xi _),z7]
  | succ m ih =>
   intro k hk
   have h1:k<l.length:=by omega
   rw[List.drop_eq_getElem_cons h1]
   by_cases c:l[k]=n
   ·rw[if_pos (by rw[c]; exact List.mem_cons_self)]
    refine qh ?_
    unfold gp
    rw[za (qL h1),zc (zo h1),qP h1,za (by rw[beq_iff_eq]; exact c),z7]
   ·have e:(n∈l[k]::l.drop (k+1))↔n∈l.drop (k+1):=⟨fun h=>(List.mem_cons.1 h).resolve_left (fun q=>c q.symm),List.mem_cons_of_mem _⟩
    have st:(gp l n (k:Int)).run=some (.inl ((k+1:Nat):Int)):=by
     unfold gp
     rw[za (qL h1),zc (zo h1),qP h1,z8 (by rw[beq_eq_false_iff_ne]; exact c),z7,vr k _ h1 (by omega)]
    refine(qI st).trans ((ih (k+1) (by omega)).trans ?_)
    by_cases q:n∈l.drop (k+1)
    ·rw[if_pos q,if_pos (e.2 q)]
    ·rw[if_neg q,if_neg (fun h=>q (e.1 h))]
 have hk:=key l.length 0 (by omega)
 rw[List.drop_zero]at hk
 have hk:(pR l n (0:Int)).run=_:=hk
 unfold rv
 rw[z6 hk]
 by_cases c:n∈l
 ·rw[if_pos c,decide_eq_true c]; rfl
 ·rw[if_neg c,decide_eq_false c]; rfl
theorem z1J(k:Int):0≤lX .i64 k (1023:Int):=by
 unfold lX mh
 have h:((BitVec.ofInt (IntKind.i64).bits k &&& BitVec.ofInt (IntKind.i64).bits 1023)).toNat≤1023:=by
  rw[BitVec.toNat_and]
  refine Nat.le_trans Nat.and_le_right ?_
  decide
 dsimp only
 generalize ((BitVec.ofInt (IntKind.i64).bits k &&& BitVec.ofInt (IntKind.i64).bits 1023)).toNat=n at h ⊢
 show 0≤zt (n:Int)
 rw[zN (by omega) (by omega)]
 omega
theorem Tl{f:Form}(h:(B4 f).1=0):(f.1.map (·.1)).Nodup:=by
 obtain⟨-,ht,-⟩:=PB h
 have:=(Gn _ _ ht).1
 unfold su at this
 exact(List.nodup_append.1 (List.nodup_append.1 (List.nodup_append.1 (List.nodup_append.1 (List.nodup_append.1 this).1).1).1).1).1
theorem tL(f:Form)(ps:List Rat)(on:List Bool)(k:Int)(hw:wf zG f)(hb:bk zG f≤1048576)(hp:∀ x∈ps,zu x.2.1∧zu x.2.2.1)(hl:ps.length≤1048576)(hk:Ea k):(yT f ps on k).run=some true:=by
 obtain⟨b1,r1,f1⟩:=looked9 f hw hb
 obtain⟨b2,r2,f2⟩:=MA ps hp (by omega)
 unfold yT
 have head:(T.bind (cg f) fun r =>
   .ite r
    (.ret true)
    (T.bind (fe ps) fun r1 =>
     .ite r1
      (.ret true)
      (.ite (decide ((30:Int)<(Nat.cast (List.length on):Int)))
        (.ret true)
        (.ret ((Nat.cast (List.length on):Int)==(0:Int))))):T (Bool)).run=some (b1||(b2||(decide ((30:Int)<(on.length:Int))||((on.length:Int)==0)))):=by
  rw[z6 r1]
  cases b1 with
  | true=>rfl
  | false =>
   rw[zr,z6 r2]
   cases b2 with
   | true=>rfl
   | false =>
    rw[zr]
    cases decide ((30:Int)<(on.length:Int))<;>rfl
 rw[z6 head]
 cases b1 with
 | true=>rfl
 | false =>
 cases b2 with
 | true=>rfl
 | false =>
 cases DE:decide ((30:Int)<(on.length:Int))with
 | true=>rfl
 | false =>
 cases ho:((on.length:Int)==0)with
 | true=>rfl
 | false =>
  have h:=f1 rfl
  have CA:=f2 rfl
  have hn:=h.n
  have zhK:on.length≤30:=by rw[decide_eq_false_iff_not]at DE; omega
  have ho0:(on.length:Int)≠0:=by rw[beq_eq_false_iff_ne]at ho; exact ho
  obtain⟨j,hj,ej⟩:∃ j:Nat,j<on.length∧Int.tmod (lX .i64 k (1023:Int)) (on.length:Int)=(j:Int):=by
   have h0:0≤lX .i64 k (1023:Int):=z1J k
   have h1:=Int.tmod_nonneg (on.length:Int) h0
   have h2:=Int.tmod_lt_of_pos (lX .i64 k (1023:Int)) (show(0:Int)<(on.length:Int) by omega)
   exact⟨(Int.tmod (lX .i64 k (1023:Int)) (on.length:Int)).toNat,by omega,by omega⟩
  show(T.ite false _ _).run=_
  rw[ej,zr,z6 (JP f h ps on CA)]
  have e0:((0:Nat)+(Int.toNat (j:Int)))=j:=by omega
  rw[e0]
  have e1:xj on j (zb .bool)=nth on (j:Int) false:=rfl
  have e2:List.drop (0:Nat) (List.take ((0:Nat)+((0:Nat)+(List.length on))) (List.set on j (!(xj on j (zb .bool)))))=on.set j (!(nth on (j:Int) false)):=by
   rw[e1,List.drop_zero,Nat.zero_add,Nat.zero_add]
   exact List.take_of_length_le (by rw[List.length_set]; omega)
  rw[e2]
  have hE2:=JP f h ps (on.set j (!(nth on (j:Int) false))) CA
  have hR:=Oc f h ps on CA
  have bad:∀ e g hh:Int,e=hh→e≠0∨g≠0→∀ (L:List wC) (R:List Int) (S:zf),(fh f ps on).run=some (L,(R,(S,hh)))→∀ t:T Bool,(T.ite ((e != (0:Int))||(g != (0:Int))) (T.bind (fh f ps on) fun(r6,r7,r8,h)=>.ite (e==h) (T.bind (c7) fun r9=>.ret r9) (.ret false)) t).run=some true:=by
   rintro e g hh rfl hor L R S hR t
   rw[za (by rw[Bool.or_eq_true,bne_iff_ne,bne_iff_ne]; exact hor),z6 hR]
   dsimp only
   rw[za (by simp),z6 J0,z7]
  have pre:∀ t:T Bool,(T.zd ((on.length:Int)≠(0:Int))<|.zd (xp (0:Nat) (0:Nat) (0:Nat) (0:Nat) (0:Nat) (List.length on) (1:Nat)) <|
   .zd (zi (j:Int) ((0:Nat)+(List.length on))) <|
   .zd (eB ((0:Nat)+(List.length on)) ((0:Nat)+(List.length on)) j (List.length on)) <|
   .zd (zi (j:Int) ((0:Nat)+(List.length on))) <|
   .zd (eB ((0:Nat)+(List.length on)) ((0:Nat)+(List.length on)) j (List.length on)) <|
   .zd (((0:Nat)+(List.length on))=((0:Nat)+(List.length on))) t).run=t.run:=fun t=>by
   rw[zc ho0,qT _ rfl rfl rfl (by omega),zc (zo (by omega)),zc (eI.2 ⟨rfl,hj⟩),zc (zo (by omega)),zc (eI.2 ⟨rfl,hj⟩),T.zk]
  cases q:Oy f ps on with
  | er n e =>
   have he:=Ti q
   rw[q]at hR
   dsimp only[Mq]
   refine(pre _).trans ((z6 hE2 _).trans ?_)
   exact bad e _ e rfl (.inl he) _ _ _ hR _
  | ok l =>
   rw[q]at hR
   dsimp only[Mq]
   refine(pre _).trans ((z6 hE2 _).trans ?_)
   cases q2:Oy f ps (on.set j (!(nth on (j:Int) false)))with
   | er n e =>
    have he:=Ti q2
    exact bad 0 e 0 rfl (.inr he) _ _ _ hR _
   | ok l2 =>
    obtain⟨xN,QA,hol,hr,hbn⟩:=Ry q
    obtain⟨-,-,hol2,hr2,-⟩:=Ry q2
    have hv:=Sg h QA CA
    have hlk:=U4 h hv hr
    have zgj:=U4 h hv hr2
    have rl:=mD l
    have rl2:=mD l2
    have hlen:=hlk.len
    have z42:=zgj.len
    have hjs:j<f.1.length:=by omega
    have Fv:=Tl xN
    dsimp only[Mq]
    rw[z8 (by rfl),z8 (decide_eq_false (by omega))]
    have key:∀ (m i:Nat),i+m=f.2.2.2.2.1.length→(gf (j:Int) f ((i:Int),((uc l,(vo l,())),(uc l2,(vo l2,()))))).run=some (.inl ((uc l,(vo l,())),(uc l2,(vo l2,())))):=by
     intro m
     induction m with
     | zero =>
      intro i hi
      have:i=f.2.2.2.2.1.length:=by omega
      subst this
      refine qh ?_
      unfold uY
      dsimp only
      rw[z8 (xi _),z7]
     | succ m ih =>
      intro i hi
      have h1:i<f.2.2.2.2.1.length:=by omega
      refine(qI (s':=(((i+1:Nat):Int),((uc l,(vo l,())),(uc l2,(vo l2,()))))) ?_).trans (ih (i+1) (by omega))
      have d1:decide ((i:Int)∈vo l)=KN f.1 on f.2.2.2.2.1[i].2.2.1:=by
       rw[Bool.eq_iff_iff,decide_eq_true_eq]; exact Ys hr i h1
      have d2:decide ((i:Int)∈vo l2)=KN f.1 (on.set j (!(nth on (j:Int) false))) f.2.2.2.2.1[i].2.2.1:=by
       rw[Bool.eq_iff_iff,decide_eq_true_eq]; exact Ys hr2 i h1
      have zb7:=OL Fv hol hjs _ rfl f.2.2.2.2.1[i].2.2.1
      unfold uY
      dsimp only
      rw[za (qL h1),z6 (Lv (vo l) i (by omega)),z6 (Lv (vo l2) i (by omega)),zc (zo h1),zc (zo hjs),qP h1,qP hjs,d1,d2,← zb7,z8 (by
       cases KN f.1 on f.2.2.2.2.1[i].2.2.1<;>cases KN f.1 (on.set j (!(nth on (j:Int) false))) f.2.2.2.2.1[i].2.2.1<;>rfl),z7,vr i _ h1 (by omega)]
    have key:(gf (j:Int) f ((0:Int),((uc l,(vo l,())),(uc l2,(vo l2,()))))).run=_:=key f.2.2.2.2.1.length 0 (by omega)
    rw[z6 key,Sum.elim_inl]
    rw[z6 J0,z7]
theorem tM(x:Y5 [zG,.sl zI,.sl .bool,.int .i64])(hw:wfL [zG,.sl zI,.sl .bool,.int .i64] x)(hb:bkL [zG,.sl zI,.sl .bool,.int .i64] x≤1048576) :
  (yT (Bl [zG,.sl zI,.sl .bool,.int .i64] x).1 (Bl [zG,.sl zI,.sl .bool,.int .i64] x).2.1 (Bl [zG,.sl zI,.sl .bool,.int .i64] x).2.2.1 (Bl [zG,.sl zI,.sl .bool,.int .i64] x).2.2.2).run=some true:=by
 obtain⟨f,ps,on,k,u⟩:=x
 have e:bkL [zG,.sl zI,.sl .bool,.int .i64] (f,ps,on,k,u)=bk zG f+((cq (bk zI) ps+1)+(bk (.sl .bool) on+(bk (.int .i64) k+0))):=rfl
 have hr:∀ x,1≤bk zI x:=fun x=>by have:bk zI x=1+((cq (bk u32) x.2.1+1)+((cq (bk u32) x.2.2.1+1)+1)):=rfl; omega
 have hl:=fK (bk zI) ps hr
 have h1:wf zG f:=hw.1
 have h2:∀ x∈ps,wf zI x:=hw.2.1
 exact tL f ps on k h1 (by omega) (fun x hx=>EJ (h2 x hx)) (by omega) (z5S hw.2.2.2.1)
end Go.AM.Lf
