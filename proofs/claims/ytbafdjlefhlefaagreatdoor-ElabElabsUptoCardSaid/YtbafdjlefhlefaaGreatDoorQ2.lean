/-
  Plain laws of the lifted program, part 2.
-/
import Derived.Test.YtbafdjlefhlefaaGreatDoorLf1
import Derived.Test.YtbafdjlefhlefaaGreatDoorAmA
import Derived.Test.YtbafdjlefhlefaaGreatDoorAmD
import Derived.Test.YtbafdjlefhlefaaGreatDoorQ0
import Derived.Test.YtbafdjlefhlefaaGreatDoorQ1
set_option linter.unusedVariables false
open Go.AM.T (mJ qC qf xc y4 z6 z7 z8 zD zM za zc ze zr zx zy)
namespace Go.AM.Lf
open PL
theorem oG(a b:zf):zH a b=zH b a:=by
 rw[wm,wm]; exact decide_eq_decide.2 eq_comm
theorem Qs{α:Type}(p:α→Bool)(i:Int)(x:α)(r:List α):PL.vL p i (x::r)=if p x=true then i else PL.vL p (i+1) r:=rfl
theorem My(s:zf)(v:zK)(h:gI v)(c0:wg):(eR s v ((0:Int),c0)).run=some (if PL.vL (zH s) 0 v.1 = -1 then .inl c0 else .inr ((0:Int),qO 0 ([(PL.vL (zH s) 0 v.1,1)],0))):=by
 have hl:=h.l1
 have h0:(wa (0:Int)).run=some (xj (0:Q)):=gT 0 ⟨by omega,by omega⟩
 have key:∀ (m k:Nat),k+m=v.1.length→(eR s v ((k:Int),c0)).run=some (if PL.vL (zH s) (k:Int) (v.1.drop k) = -1 then .inl c0 else .inr ((0:Int),qO 0 ([(PL.vL (zH s) (k:Int) (v.1.drop k),1)],0))):=by
  intro m
  induction m with
  | zero =>
   intro k hk
   have:k=v.1.length:=by omega
   subst this
   rw[List.drop_length]
   refine qf ?_
   unfold bu
   dsimp only
   rw[z8 (xi _),z7]
   rfl
  | succ m ih =>
   intro k hk
   have h1:k<v.1.length:=by omega
   rw[List.drop_eq_getElem_cons h1,Qs]
   by_cases c:zH s v.1[k]=true
   ·rw[if_pos c,if_neg (by omega)]
    refine qf ?_
    unfold bu
    dsimp only
    rw[za (qK h1),zc (zm h1),qZ h1,za (by rw[oG]; exact c),z6 D9,z6 h0,z7]
    rfl
   ·rw[if_neg c]
    refine(qC (s':=(((k+1:Nat):Int),c0)) ?_).trans ?_
    ·unfold bu
     dsimp only
     rw[za (qK h1),zc (zm h1),qZ h1,z8 (by rw[oG]; simpa using c),z7,vr k _ h1 (by omega)]
    ·exact ih (k+1) (by omega)
 have:=key v.1.length 0 (by omega)
 rw[List.drop_zero]at this
 exact this
theorem NN(s:zf)(v:zK)(h:gI v)(c0:wg):(nH s v ((0:Int),c0)).run=some (if PL.vL (zH s) 0 v.2.1 = -1 then .inl c0 else .inr ((0:Int),qO 0 ([],Zo v.2.2.1 (PL.vL (zH s) 0 v.2.1)))):=by
 have hl:=h.l2
 have hl3:=h.l3
 have h0:(wa (0:Int)).run=some (xj (0:Q)):=gT 0 ⟨by omega,by omega⟩
 have key:∀ (m k:Nat),k+m=v.2.1.length→(nH s v ((k:Int),c0)).run=some (if PL.vL (zH s) (k:Int) (v.2.1.drop k) = -1 then .inl c0 else .inr ((0:Int),qO 0 ([],Zo v.2.2.1 (PL.vL (zH s) (k:Int) (v.2.1.drop k))))):=by
  intro m
  induction m with
  | zero =>
   intro k hk
   have:k=v.2.1.length:=by omega
   subst this
   rw[List.drop_length]
   refine qf ?_
   unfold gX
   dsimp only
   rw[z8 (xi _),z7]
   rfl
  | succ m ih =>
   intro k hk
   have h1:k<v.2.1.length:=by omega
   rw[List.drop_eq_getElem_cons h1,Qs]
   by_cases c:zH s v.2.1[k]=true
   ·have c':zH v.2.1[k] s=true:=by rw[oG]; exact c
    rw[if_pos c,if_neg (by omega)]
    refine qf ?_
    unfold gX
    dsimp only
    rw[za (qK h1),zc (zm h1),qZ h1,c',Bool.true_and]
    unfold Zo
    by_cases c2:k<v.2.2.1.length
    ·have hm:nth v.2.2.1 (k:Int) (zb zJ)∈v.2.2.1:=by rw[qZ c2]; exact List.getElem_mem c2
     rw[za (qK c2),zc (zm c2),z6 (xN _ (xR (h.ok _ hm) (by omega))),z7,if_pos (by simpa using c2),xl]
     rfl
    ·rw[z8 (decide_eq_false (by omega)),zc (zm h1),zy,z6 h0,z7,if_neg (by simpa using c2)]
     rfl
   ·have c':zH v.2.1[k] s=false:=by rw[oG]; simpa using c
    rw[if_neg c]
    refine(qC (s':=(((k+1:Nat):Int),c0)) ?_).trans ?_
    ·unfold gX
     dsimp only
     rw[za (qK h1),zc (zm h1),qZ h1,c',Bool.false_and,zr,zc (zm h1),zr,z7,vr k _ h1 (by omega)]
    ·exact ih (k+1) (by omega)
 have:=key v.2.1.length 0 (by omega)
 rw[List.drop_zero]at this
 exact this
theorem KY{v:zK}(h:gI v)(s:zf):(tJ s v).run=some (gC (mE v s)):=by
 have g0:=My s v h zC
 have g1:=NN s v h zC
 have r0:=DO (zH s) v.1
 have r1:=DO (zH s) v.2.1
 unfold tJ mE
 have g0:(eR s v ((0:Int),((0:Int),(([]:List Term),((false,(([]:List Int),(([]:List Int),()))),()))))).run=_:=g0
 rw[z6 g0]
 by_cases c:PL.vL (zH s) 0 v.1 = -1
 ·rw[if_pos c,if_neg (by omega),Sum.elim_inl,z6 g1]
  by_cases c2:PL.vL (zH s) 0 v.2.1 = -1
  ·rw[if_pos c2,if_pos (by omega)]; rfl
  ·rw[if_neg c2,if_neg (by omega)]; rfl
 ·rw[if_neg c,if_pos (by omega)]; rfl
theorem Yh(k:Int)(a b:AC)(hk:k=3∨k=4∨k=5∨k=6)(ha:VT 400000 a)(hb:VT 400000 b)(la:a.1.length≤400000)(lb:b.1.length≤400000) :
  (.ite (k==(3:Int)) (T.bind (cU (qO 0 a) (qO 0 b)) fun r7=>.ret (r7,(0:Int)))
   (.ite (k==(4:Int)) (T.bind (wa (-1:Int)) fun r8=>T.bind (va (qO 0 b) r8) fun r9=>T.bind (cU (qO 0 a) r9) fun S4=>.ret (S4,(0:Int)))
    (.ite (k==(5:Int)) (T.bind (sj (qO 0 a) (qO 0 b)) fun(r11,r12)=>.ret (r11,r12)) (T.bind (rT (qO 0 a) (qO 0 b)) fun(r13,r14)=>.ret (r13,r14)))):T (wg×Int)).run=some (gC (Z3 k a b)):=by
 have BO:=uz ha (by omega:400000≤1000000)
 have Zf:=uz hb (by omega:400000≤1000000)
 have m1:=cG
 unfold Z3
 by_cases k3:k=3
 ·rw[if_pos k3,za (by simpa using k3),z6 (oS 0 0 a b BO Zf (by omega) (by omega)),z7]
  rfl
 ·rw[if_neg k3,z8 (by simpa using k3)]
  by_cases k4:k=4
  ·have hs:=lU (b := -1) (j:=1) (by omega) hb
   have hl:=bS (-1) b.1
   rw[if_pos k4,za (by simpa using k4),z6 KN,z6 (uP (-1) 0 b (by omega) Zf (by omega)),z6 (oS 0 0 a (HF (-1) b) BO (uz hs (by omega)) (by omega) (by show(QF (-1) b.1).length≤1000000; omega)),z7]
   rfl
  ·rw[if_neg k4,z8 (by simpa using k4)]
   by_cases k5:k=5
   ·rw[if_pos k5,za (by simpa using k5)]
    have hm:(sj (qO 0 a) (qO 0 b)).run=some (gC (if a.1≠[]∧b.1≠[]then(VV,6)else if a.1≠[]then(HF b.2 a,0)else(HF a.2 b,0))):=by
     unfold sj
     rw[y9,y9]
     by_cases c:a.1≠[]∧b.1≠[]
     ·rw[if_pos c,za (by rw[decide_eq_true c.1,decide_eq_true c.2]; rfl),z7]; rfl
     ·rw[if_neg c,z8 (by by_cases h:a.1≠[]; rw[decide_eq_false (fun h2=>c ⟨h,h2⟩),Bool.and_false]; rw[decide_eq_false h]; rfl)]
      by_cases c2:a.1≠[]
      ·rw[if_pos c2,za (decide_eq_true c2)]
       show(T.bind (va (qO 0 a) (xj b.2)) _).run=_
       rw[z6 (uP b.2 0 a (by have:=hb.1; omega) BO (by omega)),z7]; rfl
      ·rw[if_neg c2,z8 (decide_eq_false c2)]
       show(T.bind (va (qO 0 b) (xj a.2)) _).run=_
       rw[z6 (uP a.2 0 b (by have:=ha.1; omega) Zf (by omega)),z7]; rfl
    rw[z6 hm]
    rfl
   ·have B6:=hb.1
    rw[if_neg k5,z8 (by simpa using k5)]
    have hm:(rT (qO 0 a) (qO 0 b)).run=some (gC (if b.1≠[]then(VV,6)else if b.2=0 then(VV,7)else(HF (1 / b.2) a,0))):=by
     obtain⟨z,hd⟩:=GU (xj 1) (xj b.2) (qT (by rw[GJ]; omega)) (qT (by omega))
     rw[vg,vg]at hd
     unfold rT
     rw[y9]
     by_cases c:b.1≠[]
     ·rw[if_pos c,za (decide_eq_true c),z7]; rfl
     ·rw[if_neg c,z8 (decide_eq_false c),z6 D9]
      show(T.bind (fH (xj 1) (xj b.2)) _).run=_
      rw[z6 hd]
      dsimp only
      by_cases z:b.2=0
      ·rw[if_pos z,if_pos z,za (by simp[z]),z7]; rfl
      ·have:=UR b.2
       rw[if_neg z,if_neg z,z8 (by simp[z]),z6 (uP (1 / b.2) 0 a (by omega) BO (by omega)),z7]; rfl
    rw[z6 hm]
    rfl
theorem BJ{v:zK}(hv:gI v)(e:Expr)(d:Nat)(ho:vf d e=true)(ha:allOk e)(hn:wv e≤1000):(Uo e v).run=some (gC (mb v e)):=by
 unfold Uo
 refine y4 (fun x:Expr×zK=>(∃ d,vf d x.1=true)∧allOk x.1∧wv x.1≤1000∧x.2=v) (fun x=>wv x.1) (fun x=>gC (mb v x.1)) (fun x hx g hg => ?_) (x:=(e,v)) ⟨⟨d,ho⟩,ha,hn,rfl⟩
 obtain⟨e,v'⟩:=x
 obtain⟨⟨d,ho⟩,ha,hn,LS⟩:=hx
 dsimp only at ho ha hn LS ⊢
 subst LS
 cases e with | mk k n s l =>
 rw[F1]
 unfold sW
 rw[show Expr.kind (.mk k n s l)=k from rfl,show Expr.kids (.mk k n s l)=l from rfl,show Expr.num (.mk k n s l)=n from rfl,show Expr.name (.mk k n s l)=s from rfl]
 rcases We ho with rfl | rfl | ⟨rfl,a,rfl,Dn⟩ | ⟨hk,a,b,rfl,Dn,hob⟩
 ·rw[if_pos rfl,za (by rfl),z6 (xN n (xR ha.1 (by omega))),z7,xl]; rfl
 ·rw[if_neg (by decide),if_pos rfl,z8 (by rfl),za (by rfl),z6 (KY hv s),z7]
 ·rw[JL]at hn
  have hr:=hg (a,v') ⟨⟨_,Dn⟩,ha.2.1,by show wv a≤1000; omega,rfl⟩ (by show wv a<wv (.mk 7 n s [a]); rw[JL]; omega)
  have ka:=ZQ hv (wv a) a (d+1) (Nat.le_refl _) Dn ha.2.1
  dsimp only at hr
  rw[if_neg (by decide),if_neg (by decide),z8 (by rfl),z8 (by rfl),zc ⟨by omega,by simp⟩,show nth [a] (0:Int) (zb .expr)=a from rfl,z6 hr]
  show _=some (gC (if(mb v' a).2≠0 then(VV,(mb v' a).2)else(HF (-1) (mb v' a).1,0)))
  generalize mb v' a=A at *
  obtain⟨A1,A2⟩:=A
  have kl:=ka.len
  dsimp only at ka kl ⊢
  by_cases c:A2≠0
  ·rw[if_pos c,wq c,wq c]
   dsimp only
   rw[za (by simpa using c),z7]; rfl
  ·have:A2=0:=by simpa using c
   subst this
   have m1:=cG
   rw[if_neg (by decide),jh,jh]
   dsimp only
   rw[z8 (by rfl),za (by rfl),z6 KN,z6 (uP (-1) 0 A1 (by omega) (uz ka.sz (by omega)) (by omega)),z7]
 ·rw[Qg]at hn
  have hra:=hg (a,v') ⟨⟨_,Dn⟩,ha.2.1,by show wv a≤1000; omega,rfl⟩ (by show wv a<wv (.mk k n s [a,b]); rw[Qg]; omega)
  have hrb:=hg (b,v') ⟨⟨_,hob⟩,ha.2.2.1,by show wv b≤1000; omega,rfl⟩ (by show wv b<wv (.mk k n s [a,b]); rw[Qg]; omega)
  have ka:=ZQ hv (wv a) a (d+1) (Nat.le_refl _) Dn ha.2.1
  have kb:=ZQ hv (wv b) b (d+1) (Nat.le_refl _) hob ha.2.2.1
  dsimp only at hra hrb
  have k1:(k==1)=false:=by rw[beq_eq_false_iff_ne]; omega
  have k2:(k==2)=false:=by rw[beq_eq_false_iff_ne]; omega
  have k7:(k==7)=false:=by rw[beq_eq_false_iff_ne]; omega
  rw[if_neg (by omega),if_neg (by omega),z8 k1,z8 k2,zc ⟨by omega,by simp⟩,show nth [a,b] (0:Int) (zb .expr)=a from rfl,show nth [a,b] (1:Int) (zb .expr)=b from rfl,z6 hra]
  show _=some (gC (if(mb v' a).2≠0 then(VV,(mb v' a).2)else if(mb v' b).2≠0 then(VV,(mb v' b).2)else Z3 k (mb v' a).1 (mb v' b).1))
  generalize mb v' a=A at *
  generalize mb v' b=B at *
  obtain⟨A1,A2⟩:=A
  obtain⟨B1,B2⟩:=B
  have kl:=ka.len
  have kl2:=kb.len
  dsimp only at ka kb kl kl2 ⊢
  by_cases c:A2≠0
  ·rw[if_pos c,wq c,wq c]
   dsimp only
   rw[za (by simpa using c),z7]; rfl
  ·have:A2=0:=by simpa using c
   subst this
   rw[if_neg (by decide),jh]
   dsimp only
   rw[z8 (by rfl),z8 k7,zc ⟨by omega,by simp⟩,z6 hrb]
   by_cases c2:B2≠0
   ·rw[if_pos c2,wq c2,wq c2]
    dsimp only
    rw[za (by simpa using c2),z7]; rfl
   ·have:B2=0:=by simpa using c2
    subst this
    rw[if_neg (by decide),jh]
    dsimp only
    rw[z8 (by rfl)]
    exact Yh k A1 B1 hk (uz ka.sz (by omega)) (uz kb.sz (by omega)) (by omega) (by omega)
def QQ(v:zK)(e:Expr):AC×Int:=if isE e=true then mb v e else(VV,5)
theorem EZ{e:Expr}(h:isE e=true):vf 0 e=true∧wv e≤256:=by
 unfold isE at h
 rw[Bool.and_eq_true,decide_eq_true_eq]at h
 exact h
theorem W4{v:zK}(hv:gI v)(e:Expr)(ha:allOk e):SzA 256 (QQ v e):=by
 unfold QQ
 by_cases h:isE e=true
 ·rw[if_pos h]
  obtain⟨h1,h2⟩:=EZ h
  have:=ZQ hv (wv e) e 0 (Nat.le_refl _) h1 ha
  exact⟨uz this.sz (by omega),Nat.le_trans this.len h2⟩
 ·rw[if_neg h]; exact tY (by omega) _
theorem K5{v:zK}(hv:gI v)(e:Expr)(ha:allOk e)(hn:wv e≤100000):(JP e v).run=some (gC (QQ v e)):=by
 unfold JP QQ
 rw[z6 (MU e ha (by omega))]
 cases h:isE e with
 | false=>rw[if_neg (by simp)]; rfl
 | true =>
  obtain⟨h1,h2⟩:=EZ h
  rw[if_pos rfl,z8 (by rfl),z6 (Bx hv e 0 h1 ha (by omega)),z7]
theorem Vl{v:zK}(hv:gI v)(e:Expr)(ha:allOk e)(hn:wv e≤100000)(hb:bkE e≤1000000000):(XE e v).run=some (gC (QQ v e)):=by
 unfold XE QQ
 rw[z6 (KP e ha hb (by omega))]
 cases h:isE e with
 | false=>rw[if_neg (by simp)]; rfl
 | true =>
  obtain⟨h1,h2⟩:=EZ h
  rw[if_pos rfl,z8 (by rfl),z6 (BJ hv e 0 h1 ha (by omega)),z7]
def kL(v:zK)(l r:Expr):AC×Int :=
 if(QQ v l).2≠0 then(VV,(QQ v l).2)else if(QQ v r).2≠0 then(VV,(QQ v r).2)else(adC (QQ v l).1 (HF (-1) (QQ v r).1),0)
def Nl(s:Int)(r:AC×Int):wg×Int:=(if r.2=0 then qO s r.1 else zC,r.2)
theorem mH{s:Int}{a:AC}{x:Int}(h:x≠0):Nl s (a,x)=(zC,x):=by unfold Nl; rw[if_neg h]
theorem Uv(s:Int)(a:AC):Nl s (a,0)=(qO s a,0):=by unfold Nl; rw[if_pos rfl]
theorem z2k{v:zK}(hv:gI v)(l r:Expr)(hl:allOk l)(hr:allOk r):SzA 520 (kL v l r):=by
 have kl:=W4 hv l hl
 have kr:=W4 hv r hr
 have m1:=cG
 unfold kL
 split
 ·exact tY (by omega) _
 ·split
  ·exact tY (by omega) _
  ·have hs:=lU (b := -1) (j:=1) (by omega) kr.sz
   have hle:=bS (-1) (QQ v r).1.1
   have:=kl.len
   have:=kr.len
   exact⟨uz (FT kl.sz hs) (by omega),by have:=lq ((QQ v l).1.1.length+(QF (-1) (QQ v r).1.1).length) (QQ v l).1.1 (QF (-1) (QQ v r).1.1); show(ml ((QQ v l).1.1.length+(QF (-1) (QQ v r).1.1).length) (QQ v l).1.1 (QF (-1) (QQ v r).1.1)).length≤_; omega⟩
theorem EI{v:zK}(hv:gI v)(r:uX)(h1:allOk r.2.2.2.1)(h2:allOk r.2.2.2.2.1)(n1:wv r.2.2.2.1≤100000)(n2:wv r.2.2.2.2.1≤100000):(oy r v).run=some (Nl r.2.1 (kL v r.2.2.2.1 r.2.2.2.2.1)):=by
 have kl:=W4 hv r.2.2.2.1 h1
 have kr:=W4 hv r.2.2.2.2.1 h2
 have m1:=cG
 unfold oy kL
 rw[z6 (K5 hv r.2.2.2.1 h1 n1)]
 have hb:=K5 hv r.2.2.2.2.1 h2 n2
 generalize QQ v r.2.2.2.1=A at *
 generalize QQ v r.2.2.2.2.1=B at *
 obtain⟨A1,A2⟩:=A
 obtain⟨B1,B2⟩:=B
 have ll:=kl.len
 have lr:=kr.len
 dsimp only at kl kr ll lr ⊢
 by_cases c:A2≠0
 ·rw[if_pos c,wq c,mH c]
  dsimp only
  rw[za (by simpa using c),z7]
 ·have:A2=0:=by simpa using c
  subst this
  rw[if_neg (by decide),jh]
  dsimp only
  rw[z8 (by rfl),z6 hb]
  by_cases c2:B2≠0
  ·rw[if_pos c2,wq c2,mH c2]
   dsimp only
   rw[za (by simpa using c2),z7]
  ·have:B2=0:=by simpa using c2
   subst this
   have hs:=lU (b := -1) (j:=1) (by omega) kr.sz
   have hle:=bS (-1) B1.1
   rw[if_neg (by decide),jh,Uv]
   dsimp only
   rw[z8 (by rfl),z6 JS,z6 (jo (-1) 0 B1 (by omega) (uz kr.sz (by omega)) (by omega)),z6 (rJ 0 0 A1 (HF (-1) B1) (uz kl.sz (by omega)) (uz hs (by omega)) (by omega) (by show(QF (-1) B1.1).length≤_; omega)),z7]
   rfl
theorem H8{v:zK}(hv:gI v)(r:uX)(h1:allOk r.2.2.2.1)(h2:allOk r.2.2.2.2.1)(n1:wv r.2.2.2.1≤100000)(n2:wv r.2.2.2.2.1≤100000)(b1:bkE r.2.2.2.1≤1000000000)(b2:bkE r.2.2.2.2.1≤1000000000):(cI r v).run=some (Nl r.2.1 (kL v r.2.2.2.1 r.2.2.2.2.1)):=by
 have kl:=W4 hv r.2.2.2.1 h1
 have kr:=W4 hv r.2.2.2.2.1 h2
 have m1:=cG
 unfold cI kL
 rw[z6 (Vl hv r.2.2.2.1 h1 n1 b1)]
 have hb:=Vl hv r.2.2.2.2.1 h2 n2 b2
 generalize QQ v r.2.2.2.1=A at *
 generalize QQ v r.2.2.2.2.1=B at *
 obtain⟨A1,A2⟩:=A
 obtain⟨B1,B2⟩:=B
 have ll:=kl.len
 have lr:=kr.len
 dsimp only at kl kr ll lr ⊢
 by_cases c:A2≠0
 ·rw[if_pos c,wq c,mH c]
  dsimp only
  rw[za (by simpa using c),z7]; rfl
 ·have:A2=0:=by simpa using c
  subst this
  rw[if_neg (by decide),jh]
  dsimp only
  rw[z8 (by rfl),z6 hb]
  by_cases c2:B2≠0
  ·rw[if_pos c2,wq c2,mH c2]
   dsimp only
   rw[za (by simpa using c2),z7]; rfl
  ·have:B2=0:=by simpa using c2
   subst this
   have hs:=lU (b := -1) (j:=1) (by omega) kr.sz
   have hle:=bS (-1) B1.1
   rw[if_neg (by decide),jh,Uv]
   dsimp only
   rw[z8 (by rfl),z6 KN,z6 (uP (-1) 0 B1 (by omega) (uz kr.sz (by omega)) (by omega)),z6 (oS 0 0 A1 (HF (-1) B1) (uz kl.sz (by omega)) (uz hs (by omega)) (by omega) (by show(QF (-1) B1.1).length≤_; omega)),z7]
   rfl
structure FL(f:Form):Prop where
 n:f.1.length+f.2.1.length+f.2.2.1.length+f.2.2.2.1.length+f.2.2.2.2.1.length+f.2.2.2.2.2.1.length≤30
 s:∀ x∈f.1,x.1.length≤600
 p:∀ x∈f.2.1,x.1.length≤600∧x.2.1.2.1.length≤75∧x.2.1.2.2.1.length≤75
 g:∀ x∈f.2.2.1,x.1.length≤600∧x.2.1.length≤600
 d:∀ x∈f.2.2.2.1,x.1.length≤600
 r:∀ x∈f.2.2.2.2.1,x.1.length≤600∧x.2.2.1.length≤600∧szE x.2.2.2.1≤600∧szE x.2.2.2.2.1≤600
 c:∀ x∈f.2.2.2.2.2.1,x.1.length≤600∧szE x.2.2.2.1≤600∧szE x.2.2.2.2.1≤600
theorem cv(e:Expr):Expr.mk (Expr.kind e) ((Expr.num e).1,((Expr.num e).2.1,((Expr.num e).2.2.1,()))) (Expr.name e) (Expr.kids e)=e:=by
 cases e; rfl
mutual
theorem T5:∀ e:Expr,bkE e≤4*szE e
 | .mk k n s l=>by
  have:=Lv l
  unfold bkE szE
  omega
theorem Lv:∀ l:List Expr,bkEs l≤4*szEs l
 | []=>Nat.le_refl _
 | e::r=>by
  have h1:=T5 e
  have h2:=Lv r
  unfold bkEs szEs
  omega
end
def dZ(e:Expr):Prop:=szE e≤600∧allOk e
theorem jD{e:Expr}(h:dZ e):bkE e≤2400:=by have:=T5 e; have:=h.1; omega
theorem Us{e:Expr}(h:dZ e):wv e≤256:=by have:=HR e; have:=h.1; omega
theorem Ux{e:Expr}(h:dZ e):(uB e).run=some (vf 0 e):=R7 e h.2 (Us h)
theorem QE{e:Expr}(h:dZ e):(yV e).run=some (vf 0 e):=WM e h.2 (by have:=jD h; omega) (Us h)
theorem Mn{e:Expr}(h:dZ e)(ho:vf 0 e=true):(cx e).run=some (prE e):=NU e ho h.2 (by have:=h.1; omega)
theorem X7{e:Expr}(h:dZ e)(ho:vf 0 e=true):(kG e).run=some (prE e):=JE e ho h.2 (by have:=h.1; omega) (by have:=jD h; omega)
theorem dL{e:Expr}(h:dZ e)(ho:vf 0 e=true):(prE e).length≤1200000:=by
 have:=lg (wv e) e 0 (Nat.le_refl _) ho h.2
 have:=h.1
 omega
structure FS(f:Form):Prop where
 n:f.1.length+f.2.1.length+f.2.2.1.length+f.2.2.2.1.length+f.2.2.2.2.1.length+f.2.2.2.2.2.1.length≤30
 s:∀ x∈f.1,x.1.length≤600
 p:∀ x∈f.2.1,x.1.length≤600∧xf 100 x.2.1
 g:∀ x∈f.2.2.1,x.1.length≤600∧x.2.1.length≤600
 d:∀ x∈f.2.2.2.1,x.1.length≤600
 r:∀ x∈f.2.2.2.2.1,x.1.length≤600∧x.2.2.1.length≤600∧dZ x.2.2.2.1∧dZ x.2.2.2.2.1
 c:∀ x∈f.2.2.2.2.2.1,x.1.length≤600∧dZ x.2.2.2.1∧dZ x.2.2.2.2.1
theorem zck{f:Form}(hw:wf zG f)(hb:FB f)(hl:FL f):FS f:=by
 refine⟨hl.n,hl.s,fun x hx => ?_,hl.g,hl.d,fun x hx => ?_,fun x hx => ?_⟩
 ·obtain⟨a,b,c⟩:=hl.p x hx
  obtain⟨_,_,_,d,e⟩:=hb.p x hx
  exact⟨a,d,e,by omega,by omega⟩
 ·obtain⟨a,b,c,d⟩:=hl.r x hx
  have hwx:wf zo x:=hw.2.2.2.2.1 x hx
  exact⟨a,b,⟨c,rj _ hwx.2.2.2.1 (by omega)⟩,d,rj _ hwx.2.2.2.2.1 (by omega)⟩
 ·obtain⟨a,b,c⟩:=hl.c x hx
  have hwx:wf zn x:=hw.2.2.2.2.2.1 x hx
  exact⟨a,⟨b,rj _ hwx.2.2.2.1 (by omega)⟩,c,rj _ hwx.2.2.2.2.1 (by omega)⟩
def KD(x:Switch):Bool := !xY x.1
def fE(x:Param):Bool := !xY x.1||(!dR x.2.1||wW x.2.1)
def nU(s:zf):Bool:=zH s []||xY s
def K1(x:ri):Bool := !xY x.1 || !nU x.2.1
def VJ(n at_:Int)(x:Field):Bool:=decide (x.2.1<at_)||(decide (n≤x.2.1)||(!xY x.1||(decide (x.2.2.2.1<(0:Int))||decide ((9:Int)<x.2.2.2.1))))
def VL(n at_:Int)(x:Check):Bool:=decide (x.2.1<at_)||(decide (n≤x.2.1)||(!xY x.1||(decide (x.2.2.1<(0:Int))||(decide ((2:Int)<x.2.2.1)||(!vf 0 x.2.2.2.1 || !vf 0 x.2.2.2.2.1)))))
def QK(x:uX):Bool := !xY x.1||(!nU x.2.2.1||(decide (x.2.1<(0:Int))||(decide ((3:Int)<x.2.1)||(!vf 0 x.2.2.2.1 || !vf 0 x.2.2.2.2.1))))
def Xe{α:Type}(bad:Int→α→Bool)(nx:α→Int):Int→List α→Bool
 | _,[]=>true
 | at_,x::r => !bad at_ x&&Xe bad nx (nx x) r
theorem F2{α:Type}(bad:Int→α→Bool)(nx:α→Int)(at_:Int)(x:α)(r:List α):Xe bad nx at_ (x::r)=(!bad at_ x&&Xe bad nx (nx x) r):=rfl
def a1(f:Form):Bool := !f.1.any KD
def a2(f:Form):Bool := !f.2.1.any fE
def a3(f:Form):Bool := !f.2.2.1.any K1
def a4(f:Form):Bool:=Xe (VJ (f.2.2.1.length:Int)) (fun x=>x.2.1) 0 f.2.2.2.1
def a5(f:Form):Bool:=Xe (VL (f.2.2.1.length:Int)) (fun x=>x.2.1) 0 f.2.2.2.2.2.1
def a6(f:Form):Bool := !f.2.2.2.2.1.any QK
theorem XM{α:Type}(l:List α)(d:α)(bad:α→Bool){r:Int→T (Int⊕(Unit⊕Bool))}
  (step:∀ (k:Nat) (x:α),k<l.length→nth l (k:Int) d=x→x∈l→(r (k:Int)).run=some (if bad x=true then .inr (.inr false)else .inl ((k+1:Nat):Int)))
  (done:(r (l.length:Int)).run=some (.inr (.inl ()))):(T.loop r 0).run=some (if l.any bad=true then .inr false else .inl ()):=by
 refine T.js (r:=r) l d (fun(_:Unit) i=>i) (fun _ _=>True) (fun xs _=>if xs.any bad=true then .inr false else .inl ()) (fun k b x xs hk hx hm _ _ => ?_) (fun b _ => ?_) (b:=()) trivial
 ·rw[step k x hk hx hm,List.any_cons]
  cases bad x with
  | true=>exact .inr rfl
  | false=>exact .inl ⟨(),rfl,trivial,rfl⟩
 ·exact done
theorem tw{α:Type}(l:List α)(d:α)(bad:Int→α→Bool)(nx:α→Int){r:Int×Int→T ((Int×Int)⊕(Unit⊕Bool))}
  (hn:∀ at_ x,0≤at_→bad at_ x=false→0≤nx x)
  (step:∀ (k:Nat) (at_:Int) (x:α),k<l.length→nth l (k:Int) d=x→x∈l→0≤at_→(r (at_,(k:Int))).run=some (if bad at_ x=true then .inr (.inr false)else .inl (nx x,((k+1:Nat):Int))))
  (done:∀ at_,(r (at_,(l.length:Int))).run=some (.inr (.inl ()))):(T.loop r (0,0)).run=some (if Xe bad nx 0 l=true then .inl ()else .inr false):=by
 refine T.js (r:=r) l d (fun(b:Int) i=>(b,i)) (fun _ b=>0≤b) (fun xs b=>if Xe bad nx b xs=true then .inl ()else .inr false) (fun k b x xs hk hx hm _ h0 => ?_) (fun b _ => ?_) (b:=0) (Int.le_refl 0)
 ·rw[step k b x hk hx hm h0]
  rw[F2]
  cases h:bad b x with
  | true=>exact .inr rfl
  | false=>exact .inl ⟨nx x,rfl,hn b x h0 h,rfl⟩
 ·exact done b
theorem nf{α:Type}{bad:Int→α→Bool}{nx:α→Int}:∀ {l:List α} {at_:Int},Xe bad nx at_ l=true→∀ x∈l,∃ b,bad b x=false
 | [],_,_,x,hx=>by cases hx
 | y::r,at_,h,x,hx=>by
  unfold Xe at h
  rw[Bool.and_eq_true,Bool.not_eq_true']at h
  rcases List.mem_cons.1 hx with rfl | hx
  ·exact⟨at_,h.1⟩
  ·exact nf h.2 x hx
theorem MW{α:Type}{x:α}{b c:Bool}{t:T (Bool×α)}(h:t.run=some (c,x)):(T.ite b (.ret (true,x)) t).run=some (b||c,x):=by cases b; exact h; rfl
theorem orB{b c:Bool}{t:T Bool}(h:t.run=some c):(T.ite b (.ret true) t).run=some (b||c):=by cases b; exact h; rfl
theorem sI{α:Type}{x:α}{m:T Bool}{b c:Bool}{t:T (Bool×α)}(hm:m.run=some b)(h:t.run=some (c,x)):(T.bind m fun r=>T.ite (!r) (.ret (true,x)) t).run=some (!b||c,x):=by
 rw[z6 hm]; exact MW h
theorem Ve{m:T Bool}{b c:Bool}{t:T Bool}(hm:m.run=some b)(h:t.run=some c):(T.bind m fun r=>T.ite (!r) (.ret true) t).run=some (!b||c):=by
 rw[z6 hm]; exact orB h
theorem z5x{α:Type}{x:α}{m:T Bool}{b:Bool}(hm:m.run=some b):(T.bind m fun r=>.ret ((!r),x)).run=some (!b,x):=by
 rw[z6 hm]; rfl
theorem Pg{m:T Bool}{b:Bool}(hm:m.run=some b):(T.bind m fun r=>.ret (!r)).run=some (!b):=by
 rw[z6 hm]; rfl
abbrev Yl(a b:Int):Prop:=a≤b
abbrev ilt(a b:Int):Prop:=a<b
def Oo(x:Switch):zf:=[115,119,105,116,99,104,32]++x.1++(bif x.2.1 then[32,111,110,10]else[32,111,102,102,10])
def FV(x:Param):zf:=[112,97,114,97,109,32]++x.1++[32]++dP (norm x.2.1)++[10]
def whS(s:zf):zf:=if s=[]then[]else[32,119,104,101,110,32]++s
def phS(x:ri):zf:=[112,97,103,101,32]++x.1++whS x.2.1++[10]
def fhS(x:Field):zf:=bif x.2.2.1 then[102,105,101,108,100,32]++x.1++[32,109,117,115,116]else[102,105,101,108,100,32]++x.1
def fdS(x:Field):zf:=if(0:Int)<x.2.2.2.1 then fhS x++([32,115,99,97,108,101,32]++pw x.2.2.2.1)++[10]else fhS x++[10]
def siS(l:Expr)(sign:zf)(r:Expr):zf:=[32,58,32]++prE l++[32]++sign++[32]++prE r++[10]
def KV(n:Int):zf:=if n=1 then[60]else if n=2 then[60,61]else[61]
def Fv(n:Int):zf:=if n=0 then[114,101,113,117,105,114,101,100]else if n=1 then[115,116,114,111,110,103]else if n=2 then[109,101,100,105,117,109]else[119,101,97,107]
def ckS(x:Check):zf:=[99,104,101,99,107,32]++x.1++siS x.2.2.2.1 (KV x.2.2.1) x.2.2.2.2.1
def LB(x:uX):zf:=[114,117,108,101,32]++Fv x.2.1++[32]++x.1++whS x.2.2.1++siS x.2.2.2.1 [61] x.2.2.2.2.1
def Ou(i:Int)(x:Field):zf:=if(x.2.1==i)=true then fdS x else[]
def ckI(i:Int)(x:Check):zf:=if(x.2.1==i)=true then ckS x else[]
def IF(f:Form)(i:Nat):zf:=phS (nth f.2.2.1 (i:Int) (zb qu))++f.2.2.2.1.flatMap (Ou i)++f.2.2.2.2.2.1.flatMap (ckI i)
def frS(f:Form):zf:=f.1.flatMap Oo++f.2.1.flatMap FV++(List.range f.2.2.1.length).flatMap (IF f)++f.2.2.2.2.1.flatMap LB
structure Ok(f:Form):Prop extends FS f where
 d2:∀ x∈f.2.2.2.1,Yl 0 x.2.2.2.1∧Yl x.2.2.2.1 9
 c2:∀ x∈f.2.2.2.2.2.1,Yl 0 x.2.2.1∧Yl x.2.2.1 2∧vf 0 x.2.2.2.1=true∧vf 0 x.2.2.2.2.1=true
 r2:∀ x∈f.2.2.2.2.1,Yl 0 x.2.1∧Yl x.2.1 3∧vf 0 x.2.2.2.1=true∧vf 0 x.2.2.2.2.1=true
theorem z3L{f:Form}(h:FS f)(h4:a4 f=true)(h5:a5 f=true)(h6:a6 f=true):Ok f:=by
 refine { toFS:=h,d2:=fun x hx => ?_,c2:=fun x hx => ?_,r2:=fun x hx => ?_ }
 ·obtain⟨b,hb⟩:=nf h4 x hx
  unfold VJ at hb
  simp only[Bool.or_eq_false_iff,decide_eq_false_iff_not,Bool.not_eq_false']at hb
  obtain⟨_,_,_,q1,q2⟩:=hb
  exact⟨Int.not_lt.1 q1,Int.not_lt.1 q2⟩
 ·obtain⟨b,hb⟩:=nf h5 x hx
  unfold VL at hb
  simp only[Bool.or_eq_false_iff,decide_eq_false_iff_not,Bool.not_eq_false']at hb
  obtain⟨_,_,_,q1,q2,q3,q4⟩:=hb
  exact⟨Int.not_lt.1 q1,Int.not_lt.1 q2,q3,q4⟩
 ·unfold a6 at h6
  rw[Bool.not_eq_true',List.any_eq_false]at h6
  have hb:QK x=false:=by simpa using h6 x hx
  unfold QK at hb
  simp only[Bool.or_eq_false_iff,decide_eq_false_iff_not,Bool.not_eq_false']at hb
  obtain⟨_,_,q1,q2,q3,q4⟩:=hb
  exact⟨Int.not_lt.1 q1,Int.not_lt.1 q2,q3,q4⟩
theorem XK(n:Int):(KV n).length≤2:=by unfold KV; split; decide; split<;>decide
theorem Jp(n:Int):(Fv n).length≤8:=by unfold Fv; split; decide; split; decide; split<;>decide
theorem tE(s:zf):(whS s).length≤s.length+6:=by unfold whS; split<;>simp
theorem Uq(x:Switch)(h:x.1.length≤600):(Oo x).length≤4000000:=by
 unfold Oo
 cases x.2.1<;>simp<;>omega
theorem U7(x:Param)(h:x.1.length≤600)(hr:xf 100 x.2.1):(FV x).length≤4000000:=by
 have:=ZO x.2.1 ⟨hr.1,hr.2.1,by have:=hr.2.2.1; omega,by have:=hr.2.2.2; omega⟩
 unfold FV
 simp only[List.length_append,List.length_cons,List.length_nil]
 omega
theorem L0(x:ri)(h:x.1.length≤600)(h2:x.2.1.length≤600):(phS x).length≤4000000:=by
 have:=tE x.2.1
 unfold phS
 simp only[List.length_append,List.length_cons,List.length_nil]
 omega
theorem GD(x:Field):(fhS x).length≤x.1.length+11:=by
 unfold fhS
 cases x.2.2.1<;>simp
theorem HT(x:Field)(h:x.1.length≤600)(h1:Yl 0 x.2.2.2.1)(h2:Yl x.2.2.2.1 9):(fdS x).length≤4000000:=by
 have:=Cg x.2.2.2.1 ⟨by unfold Yl at *; omega,by unfold Yl at *; omega⟩
 have:=GD x
 unfold fdS
 split<;>simp only[List.length_append,List.length_cons,List.length_nil]<;>omega
theorem Ub{l r:Expr}(s:zf)(hs:s.length≤8)(h1:dZ l)(h2:dZ r)(o1:vf 0 l=true)(o2:vf 0 r=true):(siS l s r).length≤2500000:=by
 have:=dL h1 o1
 have:=dL h2 o2
 unfold siS
 simp only[List.length_append,List.length_cons,List.length_nil]
 omega
theorem I9(x:Check)(h:x.1.length≤600)(h1:dZ x.2.2.2.1)(h2:dZ x.2.2.2.2.1)(o1:vf 0 x.2.2.2.1=true)(o2:vf 0 x.2.2.2.2.1=true):(ckS x).length≤4000000:=by
 have:=Ub (KV x.2.2.1) (by have:=XK x.2.2.1; omega) h1 h2 o1 o2
 unfold ckS
 simp only[List.length_append,List.length_cons,List.length_nil]
 omega
theorem Um(x:uX)(h:x.1.length≤600)(h':x.2.2.1.length≤600)(h1:dZ x.2.2.2.1)(h2:dZ x.2.2.2.2.1)(o1:vf 0 x.2.2.2.1=true)(o2:vf 0 x.2.2.2.2.1=true):(LB x).length≤4000000:=by
 have:=Ub [61] (by decide) h1 h2 o1 o2
 have:=Jp x.2.1
 have:=tE x.2.2.1
 unfold LB
 simp only[List.length_append,List.length_cons,List.length_nil]
 omega
theorem Ql{f:Form}(h:Ok f)(i:Int):∀ x∈f.2.2.2.1,(Ou i x).length≤4000000:=fun x hx=>by
 unfold Ou
 split
 ·exact HT x (h.d x hx) (h.d2 x hx).1 (h.d2 x hx).2
 ·exact Nat.zero_le _
theorem Hk{f:Form}(h:Ok f)(i:Int):∀ x∈f.2.2.2.2.2.1,(ckI i x).length≤4000000:=fun x hx=>by
 unfold ckI
 obtain⟨q1,q2,q3⟩:=h.c x hx
 obtain⟨_,_,o1,o2⟩:=h.c2 x hx
 split
 ·exact I9 x q1 q2 q3 o1 o2
 ·exact Nat.zero_le _
theorem Mq{f:Form}(h:Ok f){i:Nat}(hi:i<f.2.2.1.length):(nth f.2.2.1 (i:Int) (zb qu)).1.length≤600∧(nth f.2.2.1 (i:Int) (zb qu)).2.1.length≤600 :=
 h.g _ (vk (by omega) (by omega))
theorem H6{f:Form}(h:Ok f){i:Nat}(hi:i<f.2.2.1.length):(IF f i).length≤300000000:=by
 obtain⟨g1,g2⟩:=Mq h hi
 have h1:=L0 _ g1 g2
 have h2:=uW (Ou i) f.2.2.2.1 4000000 (Ql h i)
 have h3:=uW (ckI i) f.2.2.2.2.2.1 4000000 (Hk h i)
 have:=h.n
 have:f.2.2.2.1.length*4000000≤30*4000000:=Nat.mul_le_mul_right _ (by omega)
 have:f.2.2.2.2.2.1.length*4000000≤30*4000000:=Nat.mul_le_mul_right _ (by omega)
 unfold IF
 simp only[List.length_append]
 omega
theorem mR{α:Type}(l:List α)(d:α)(C B:Nat)(f:α→zf)(s:zf){r:zf×Int→T ((zf×Int)⊕zf)}
  (step:∀ (k:Nat) (b:zf) (x:α),k<l.length→nth l (k:Int) d=x→x∈l→b.length+C≤B→(r (b,(k:Int))).run=some (.inl (b++f x,((k+1:Nat):Int))))
  (done:∀ b,(r (b,(l.length:Int))).run=some (.inr b)) (hf:∀ x∈l,(f x).length≤C) (hB:s.length+l.length*C≤B):(T.loop r (s,0)).run=some (s++l.flatMap f):=by
 rw[← W0]
 refine T.oJ (r:=r) l d (fun(b:zf) i=>(b,i)) (fun k b=>b.length≤s.length+k*C) (fun b x=>b++f x) (fun b=>b) (fun k b x hk hx hm hI => ?_) (fun b hI=>done b) (b:=s) (by omega)
 have h4:=Qu (c:=C) (show k+1≤l.length from hk)
 rw[Nat.add_mul,Nat.one_mul]at h4
 refine⟨step k b x hk hx hm (by omega),?_⟩
 have:=hf x hm
 rw[List.length_append,Nat.add_mul,Nat.one_mul]
 omega
theorem mC{α:Type}(l:List α)(d:α)(C B:Nat)(f:α→zf)(s:zf){r:Int×Unit×List Int→T ((Int×Unit×List Int)⊕(Unit×List Int))}
  (step:∀ (k:Nat) (b:zf) (x:α),k<l.length→nth l (k:Int) d=x→x∈l→b.length+C≤B→(r ((k:Int),(),bytesOf b)).run=some (.inl (((k+1:Nat):Int),(),bytesOf (b++f x))))
  (done:∀ b,(r ((l.length:Int),(),bytesOf b)).run=some (.inr ((),bytesOf b))) (hf:∀ x∈l,(f x).length≤C) (hB:s.length+l.length*C≤B):(T.loop r (0,(),bytesOf s)).run=some ((),bytesOf (s++l.flatMap f)):=by
 rw[← W0]
 refine T.oJ (r:=r) l d (fun(b:zf) i=>(i,(),bytesOf b)) (fun k b=>b.length≤s.length+k*C) (fun b x=>b++f x) (fun b=>((),bytesOf b)) (fun k b x hk hx hm hI => ?_) (fun b hI=>done b) (b:=s) (by omega)
 have h4:=Qu (c:=C) (show k+1≤l.length from hk)
 rw[Nat.add_mul,Nat.one_mul]at h4
 refine⟨step k b x hk hx hm (by omega),?_⟩
 have:=hf x hm
 rw[List.length_append,Nat.add_mul,Nat.one_mul]
 omega
theorem Zv(l:List Switch)(g:Switch→T Bool)(p:Switch→Bool)(hg:∀ x∈l,(g x).run=some (p x))(hl:l.length≤1000000000):(qA l g).run=some (l.any p):=by
 have key:(wS l g (l.length:Int) 0).run=some (if PL.vL p 0 l = -1 then .inl ()else .inr (PL.vL p 0 l)):=by
  refine PL.yS l (zb zW) p (fun i h hi hp => ?_) (fun i h hi hp => ?_) (fun i hi => ?_)
  ·have hm:=vk (d:=zb zW) h hi
   simp(disch:=omega) [qe,hi,hg _ hm,hp]
  ·have hm:=vk (d:=zb zW) h hi
   simp(disch:=omega) [qe,hi,hg _ hm,hp]
  ·simp[qe,hi]
 have hx:(qm l g).run=some (PL.vL p 0 l):=by
  unfold qm
  rw[z6 key]
  split<;>rename_i h<;>simp[h]
 unfold qA
 rw[z6 hx,z7,PL.eO _ _ _ (Int.le_refl 0)]
theorem XN(l:List Param)(g:Param→T Bool)(p:Param→Bool)(hg:∀ x∈l,(g x).run=some (p x))(hl:l.length≤1000000000):(qE l g).run=some (l.any p):=by
 have key:(jc l g (l.length:Int) 0).run=some (if PL.vL p 0 l = -1 then .inl ()else .inr (PL.vL p 0 l)):=by
  refine PL.yS l (zb zX) p (fun i h hi hp => ?_) (fun i h hi hp => ?_) (fun i hi => ?_)
  ·have hm:=vk (d:=zb zX) h hi
   simp(disch:=omega) [qS,hi,hg _ hm,hp]
  ·have hm:=vk (d:=zb zX) h hi
   simp(disch:=omega) [qS,hi,hg _ hm,hp]
  ·simp[qS,hi]
 have hx:(xP l g).run=some (PL.vL p 0 l):=by
  unfold xP
  rw[z6 key]
  split<;>rename_i h<;>simp[h]
 unfold qE
 rw[z6 hx,z7,PL.eO _ _ _ (Int.le_refl 0)]
theorem C0(l:List ri)(g:ri→T Bool)(p:ri→Bool)(hg:∀ x∈l,(g x).run=some (p x))(hl:l.length≤1000000000):(xB l g).run=some (l.any p):=by
 have key:(jJ l g (l.length:Int) 0).run=some (if PL.vL p 0 l = -1 then .inl ()else .inr (PL.vL p 0 l)):=by
  refine PL.yS l (zb qu) p (fun i h hi hp => ?_) (fun i h hi hp => ?_) (fun i hi => ?_)
  ·have hm:=vk (d:=zb qu) h hi
   simp(disch:=omega) [xG,hi,hg _ hm,hp]
  ·have hm:=vk (d:=zb qu) h hi
   simp(disch:=omega) [xG,hi,hg _ hm,hp]
  ·simp[xG,hi]
 have hx:(wR l g).run=some (PL.vL p 0 l):=by
  unfold wR
  rw[z6 key]
  split<;>rename_i h<;>simp[h]
 unfold xB
 rw[z6 hx,z7,PL.eO _ _ _ (Int.le_refl 0)]
theorem CE(l:List uX)(g:uX→T Bool)(p:uX→Bool)(hg:∀ x∈l,(g x).run=some (p x))(hl:l.length≤1000000000):(xF l g).run=some (l.any p):=by
 have key:(jG l g (l.length:Int) 0).run=some (if PL.vL p 0 l = -1 then .inl ()else .inr (PL.vL p 0 l)):=by
  refine PL.yS l (zb zo) p (fun i h hi hp => ?_) (fun i h hi hp => ?_) (fun i hi => ?_)
  ·have hm:=vk (d:=zb zo) h hi
   simp(disch:=omega) [xE,hi,hg _ hm,hp]
  ·have hm:=vk (d:=zb zo) h hi
   simp(disch:=omega) [xE,hi,hg _ hm,hp]
  ·simp[xE,hi]
 have hx:(wO l g).run=some (PL.vL p 0 l):=by
  unfold wO
  rw[z6 key]
  split<;>rename_i h<;>simp[h]
 unfold xF
 rw[z6 hx,z7,PL.eO _ _ _ (Int.le_refl 0)]
theorem K3(s:zf):(kX s).run=some (nU s):=by
 unfold kX nU
 cases zH s []with
 | true=>rfl
 | false=>rw[zr,z6 (cV s)]; rfl
theorem Nn(f:Form)(h:FS f):(lL f).run=some (a1 f&&(a2 f&&a3 f)):=by
 have hn:=h.n
 have h1:(qA f.1 (fun z0=>vE z0)).run=some (f.1.any KD):=Zv f.1 _ KD (fun x _=>by
  unfold vE KD
  exact Pg (cV x.1)) (by omega)
 have h2:(qE f.2.1 (fun z0=>vC z0)).run=some (f.2.1.any fE):=XN f.2.1 _ fE (fun x hx=>by
  have hr:=(h.p x hx).2
  have hr:xf 100000000 x.2.1:=⟨hr.1,hr.2.1,by have:=hr.2.2.1; omega,by have:=hr.2.2.2; omega⟩
  unfold vC fE
  exact Ve (cV x.1) (Ve (oH _ hr) (by rw[z6 (yw _ hr)]; rfl))) (by omega)
 have h3:(xB f.2.2.1 (fun z0=>vu z0)).run=some (f.2.2.1.any K1):=C0 f.2.2.1 _ K1 (fun x hx=>by
  unfold vu K1
  exact Ve (cV x.1) (Pg (K3 _))) (by omega)
 unfold lL a1 a2 a3
 rw[z6 h1]
 cases f.1.any KD with
 | true=>rfl
 | false =>
  rw[za (by rfl),z6 h2]
  cases f.2.1.any fE with
  | true=>rfl
  | false=>rw[za (by rfl),z6 h3,z7]; rfl
theorem JB(pg at_ n:Int)(h:0≤at_):(bw pg at_ n).run=some (!(decide (pg<at_)||decide (n≤pg))):=by
 unfold bw
 have e1:w6 at_ 0=at_:=by unfold w6; split<;>omega
 rw[e1,z7]
 by_cases q1:pg<at_<;>by_cases q2:n≤pg
 ·rw[decide_eq_true q1,decide_eq_false (by omega:¬ at_≤pg)]; rfl
 ·rw[decide_eq_true q1,decide_eq_false (by omega:¬ at_≤pg)]; rfl
 ·rw[decide_eq_true q2,decide_eq_false (by omega:¬ pg<n),Bool.and_false,Bool.or_true]; rfl
 ·rw[decide_eq_false q1,decide_eq_false q2,decide_eq_true (by omega:at_≤pg),decide_eq_true (by omega:pg<n)]; rfl
theorem W6(f:Form)(h:FS f):(eX f).run=some (a4 f):=by
 have hn:=h.n
 have key:(oY f f.2.2.2.1 (f.2.2.2.1.length:Int) (0,0)).run=some (if a4 f=true then .inl ()else .inr false):=by
  refine tw (r:=jg f f.2.2.2.1 (f.2.2.2.1.length:Int)) f.2.2.2.1 (zb q7) (VJ (f.2.2.1.length:Int)) (fun x=>x.2.1) (fun at_ x h0 hb => ?_) (fun k at_ x hk hx hm h0 => ?_) (fun at_ => ?_)
  ·unfold VJ at hb
   rw[Bool.or_eq_false_iff,decide_eq_false_iff_not]at hb
   exact Int.le_trans h0 (Int.not_lt.1 hb.1)
  ·unfold jg
   dsimp only
   rw[za (qK hk),zc (zm hk),hx]
   refine(z6 (a:=(VJ (f.2.2.1.length:Int) at_ x,x)) ?_ _).trans ?_
   ·refine(sI (cV x.1) (sI (JB x.2.1 at_ _ h0) (MW (z7 _)))).trans ?_
    unfold VJ
    cases xY x.1<;>cases decide (x.2.1<at_)<;>cases decide ((f.2.2.1.length:Int)≤x.2.1)<;>cases decide (x.2.2.2.1<(0:Int))<;>cases decide ((9:Int)<x.2.2.2.1)<;>rfl
   ·dsimp only
    cases VJ (f.2.2.1.length:Int) at_ x with
    | true=>rfl
    | false=>rw[zr,z7,vr k _ hk (by omega)]; rfl
  ·unfold jg
   dsimp only
   rw[z8 (xi _),z7]
 unfold eX
 rw[z6 key]
 cases a4 f<;>rfl
theorem T4(x:uX)(h1:dZ x.2.2.2.1)(h2:dZ x.2.2.2.2.1):(wy x).run=some (QK x):=by
 unfold wy
 have e:(T.bind (vT) fun r2=>T.ite (decide ((Nat.cast (List.length r2):Int)≤x.2.1)) (.ret true) (T.bind (kX x.2.2.1) fun r3=>T.ite (!r3) (.ret true) (T.bind (uB x.2.2.2.1) fun r4=>T.ite (!r4) (.ret true) (T.bind (uB x.2.2.2.2.1) fun r5=>.ret (!r5))))).run
   = some (decide ((4:Int)≤x.2.1)||(!nU x.2.2.1||(!vf 0 x.2.2.2.1 || !vf 0 x.2.2.2.2.1))):=by
  unfold vT
  exact orB (Ve (K3 _) (Ve (Ux h1) (Pg (Ux h2))))
 refine(Ve (cV x.1) (orB e)).trans ?_
 unfold QK
 rw[show decide ((4:Int)≤x.2.1)=decide ((3:Int)<x.2.1)from rfl]
 cases xY x.1<;>cases nU x.2.2.1<;>cases decide ((3:Int)<x.2.1)<;>cases decide (x.2.1<(0:Int))<;>rfl
theorem Wm(f:Form)(h:FS f):(eQ f).run=some (a5 f&&a6 f):=by
 have hn:=h.n
 have key:(p0 f f.2.2.2.2.2.1 (f.2.2.2.2.2.1.length:Int) (0,0)).run=some (if a5 f=true then .inl ()else .inr false):=by
  refine tw (r:=jd f f.2.2.2.2.2.1 (f.2.2.2.2.2.1.length:Int)) f.2.2.2.2.2.1 (zb zn) (VL (f.2.2.1.length:Int)) (fun x=>x.2.1) (fun at_ x h0 hb => ?_) (fun k at_ x hk hx hm h0 => ?_) (fun at_ => ?_)
  ·unfold VL at hb
   rw[Bool.or_eq_false_iff,decide_eq_false_iff_not]at hb
   exact Int.le_trans h0 (Int.not_lt.1 hb.1)
  ·obtain⟨_,x1,x2⟩:=h.c x hm
   unfold jd
   dsimp only
   rw[za (qK hk),zc (zm hk),hx]
   simp only[cv]
   refine(z6 (a:=(VL (f.2.2.1.length:Int) at_ x,x)) ?_ _).trans ?_
   ·have e:(T.bind (uL) fun r2=>T.ite (decide ((Nat.cast (List.length r2):Int)≤x.2.2.1)) (.ret (true,x)) (T.bind (uB x.2.2.2.1) fun r3=>T.ite (!r3) (.ret (true,x)) (T.bind (uB x.2.2.2.2.1) fun r4=>.ret ((!r4),x)))).run
      = some (decide ((3:Int)≤x.2.2.1)||(!vf 0 x.2.2.2.1 || !vf 0 x.2.2.2.2.1),x):=by
     unfold uL
     exact MW (sI (Ux x1) (z5x (Ux x2)))
    refine(sI (cV x.1) (sI (JB x.2.1 at_ _ h0) (MW e))).trans ?_
    unfold VL
    rw[show decide ((3:Int)≤x.2.2.1)=decide ((2:Int)<x.2.2.1)from rfl]
    cases xY x.1<;>cases decide (x.2.1<at_)<;>cases decide ((f.2.2.1.length:Int)≤x.2.1)<;>cases decide (x.2.2.1<(0:Int))<;>cases decide ((2:Int)<x.2.2.1)<;>rfl
   ·dsimp only
    cases VL (f.2.2.1.length:Int) at_ x with
    | true=>rfl
    | false=>rw[zr,z7,vr k _ hk (by omega)]; rfl
  ·unfold jd
   dsimp only
   rw[z8 (xi _),z7]
 have h3:(xF f.2.2.2.2.1 (fun z0=>wy z0)).run=some (f.2.2.2.2.1.any QK):=CE f.2.2.2.2.1 _ QK (fun x hx=>by
  obtain⟨_,_,x1,x2⟩:=h.r x hx
  exact T4 x x1 x2) (by omega)
 unfold eQ
 rw[z6 key]
 cases a5 f with
 | false=>rfl
 | true =>
  rw[if_pos rfl,Sum.elim_inl,z6 h3,z7]
  rfl
theorem Jr(s:zf)(h:s.length≤600):(fV s).run=some (whS s):=by
 unfold fV whS
 cases s with
 | nil=>rfl
 | cons b r=>rw[z8 (by rfl),zD _ (by simp only[List.length_cons,List.length_nil]at *; omega),z7,if_neg (by simp)]; rfl
theorem NW(x:Field)(h:x.1.length≤600)(h1:Yl 0 x.2.2.2.1)(h2:Yl x.2.2.2.1 9):(l8 x).run=some (fdS x):=by
 have hi:=OY x.2.2.2.1 ⟨by unfold Yl at *; omega,by unfold Yl at *; omega⟩
 have hl:=Cg x.2.2.2.1 ⟨by unfold Yl at *; omega,by unfold Yl at *; omega⟩
 obtain⟨nm,pg,mu,sc,u⟩:=x
 have h:nm.length≤600:=h
 dsimp only at hi hl
 unfold l8 fdS
 dsimp only
 have e:(bif mu then(cat (cat ([102,105,101,108,100,32]:zf) nm) ([32,109,117,115,116]:zf))else(cat ([102,105,101,108,100,32]:zf) nm))=fhS (nm,pg,mu,sc,u):=rfl
 have hf:(fhS (nm,pg,mu,sc,u)).length≤nm.length+11:=GD _
 rw[zD _ (by simp only[List.length_cons,List.length_nil]; omega),zc (fun _=>by simp only[qg,List.length_cons,List.length_nil]; omega),e]
 by_cases hs:ilt 0 sc
 ·rw[za (decide_eq_true hs),z6 hi,zD _ (by simp only[List.length_cons,List.length_nil]; omega),zD _ (by simp only[qg,List.length_cons,List.length_nil]; omega),zD _ (by simp only[qg,List.length_cons,List.length_nil]; omega),z7,if_pos hs]
  rfl
 ·rw[z8 (decide_eq_false hs),zD _ (by simp only[List.length_cons,List.length_nil]; omega),z7,if_neg hs]
  rfl
theorem G4(l r:Expr)(s:zf)(hs:s.length≤8)(h1:dZ l)(h2:dZ r)(o1:vf 0 l=true)(o2:vf 0 r=true):(dc l s r).run=some (siS l s r):=by
 have l1:=dL h1 o1
 have l2:=dL h2 o2
 unfold dc
 rw[z6 (Mn h1 o1)]
 rw[zD _ (by simp only[List.length_cons,List.length_nil]; omega),zD _ (by simp only[qg,List.length_cons,List.length_nil]; omega),zD _ (by simp only[qg,List.length_cons,List.length_nil]; omega),zD _ (by simp only[qg,List.length_cons,List.length_nil]; omega)]
 rw[z6 (Mn h2 o2)]
 rw[zD _ (by simp only[qg,List.length_cons,List.length_nil]; omega),zD _ (by simp only[qg,List.length_cons,List.length_nil]; omega),z7]
 rfl
theorem z3j(n:Int)(h:0≤n)(h2:n≤2):nth ([([61]:zf),([60]:zf),([60,61]:zf)]:List zf) n (zb .str)=KV n:=by
 have:n=0∨n=1∨n=2:=by omega
 rcases this with rfl | rfl | rfl<;>rfl
theorem z2v(n:Int)(h:0≤n)(h2:n≤3):nth ([([114,101,113,117,105,114,101,100]:zf),([115,116,114,111,110,103]:zf),([109,101,100,105,117,109]:zf),([119,101,97,107]:zf)]:List zf) n (zb .str)=Fv n:=by
 have:n=0∨n=1∨n=2∨n=3:=by omega
 rcases this with rfl | rfl | rfl | rfl<;>rfl
theorem SU(f:Form)(h:Ok f)(i:Nat)(hi:i<f.2.2.1.length)(b:zf)(hb:b.length≤100000000000):(eW f (i:Int) () (bytesOf b)).run=some ((),bytesOf (b++IF f i)):=by
 have hn:=h.n
 obtain⟨g1,g2⟩:=Mq h hi
 have hp:=L0 _ g1 g2
 have hw:=tE (nth f.2.2.1 (i:Int) (zb qu)).2.1
 have k1:∀ s:zf,s.length≤200000000000→(p9 (i:Int) f f.2.2.2.1 (f.2.2.2.1.length:Int) (0,(),bytesOf s)).run=some ((),bytesOf (s++f.2.2.2.1.flatMap (Ou i))):=fun s hs=>by
  refine mC (r:=j7 (i:Int) f f.2.2.2.1 (f.2.2.2.1.length:Int)) f.2.2.2.1 (zb q7) 4000000 400000000000 (Ou i) s (fun k b x hk hx hm hb => ?_) (fun b => ?_) (Ql h i) (by omega)
  ·unfold j7 Ou
   dsimp only
   rw[za (qK hk),zc (zm hk),hx]
   cases hc:x.2.1==(i:Int)with
   | true =>
    have fl:=HT x (h.d x hm) (h.d2 x hm).1 (h.d2 x hm).2
    rw[zy,z6 (NW x (h.d x hm) (h.d2 x hm).1 (h.d2 x hm).2),ze _ rfl rfl rfl,T.zk,z6 (vX (fdS x) b (by omega))]
    dsimp only
    rw[ze _ rfl rfl rfl,T.zk,z7,vr k _ hk (by omega),if_pos rfl]
   | false =>
    rw[zr,ze _ rfl rfl rfl,T.zk,z7,vr k _ hk (by omega),if_neg (by decide),List.append_nil]
  ·unfold j7
   dsimp only
   rw[z8 (xi _),ze _ rfl rfl rfl,T.zk,z7]
 have k2:∀ s:zf,s.length≤400000000000→(pn (i:Int) f.2.2.2.2.2.1 (f.2.2.2.2.2.1.length:Int) (0,(),bytesOf s)).run=some ((),bytesOf (s++f.2.2.2.2.2.1.flatMap (ckI i))):=fun s hs=>by
  refine mC (r:=j8 (i:Int) f.2.2.2.2.2.1 (f.2.2.2.2.2.1.length:Int)) f.2.2.2.2.2.1 (zb zn) 4000000 800000000000 (ckI i) s (fun k b x hk hx hm hb => ?_) (fun b => ?_) (Hk h i) (by omega)
  ·unfold j8 ckI
   dsimp only
   rw[za (qK hk),zc (zm hk),hx]
   cases hc:x.2.1==(i:Int)with
   | true =>
    obtain⟨q1,q2,q3⟩:=h.c x hm
    obtain⟨c1,c2,o1,o2⟩:=h.c2 x hm
    have cl:=I9 x q1 q2 q3 o1 o2
    have hs:=G4 x.2.2.2.1 x.2.2.2.2.1 (KV x.2.2.1) (by have:=XK x.2.2.1; omega) q2 q3 o1 o2
    have sl:=Ub (KV x.2.2.1) (by have:=XK x.2.2.1; omega) q2 q3 o1 o2
    unfold uL
    rw[zy,zD _ (by simp only[List.length_cons,List.length_nil]; omega)]
    simp only[T.bind,cv]
    have c3:x.2.2.1<((3:Nat):Int):=Int.lt_of_le_of_lt c2 (by decide)
    rw[zc ⟨c1,c3⟩,z3j _ c1 c2,z6 hs,zD _ (by simp only[qg,List.length_cons,List.length_nil]; omega),ze _ rfl rfl rfl,zM]
    have e:cat (cat ([99,104,101,99,107,32]:zf) x.1) (siS x.2.2.2.1 (KV x.2.2.1) x.2.2.2.2.1)=ckS x:=rfl
    rw[e,z6 (vX (ckS x) b (by omega))]
    dsimp only
    rw[ze _ rfl rfl rfl,zM,z7,vr k _ hk (by omega),if_pos trivial]
   | false =>
    rw[zr,ze _ rfl rfl rfl,T.zk,z7,vr k _ hk (by omega),if_neg (by decide),List.append_nil]
  ·unfold j8
   dsimp only
   rw[z8 (xi _),ze _ rfl rfl rfl,T.zk,z7]
 have l2:=uW (Ou i) f.2.2.2.1 4000000 (Ql h i)
 have:f.2.2.2.1.length*4000000≤30*4000000:=Nat.mul_le_mul_right _ (by omega)
 unfold eW
 rw[zc (zm hi),zD _ (by simp only[List.length_cons,List.length_nil]; omega),zc (zm hi),z6 (Jr _ g2),zD _ (by simp only[qg,List.length_cons,List.length_nil]; omega),zD _ (by simp only[qg,List.length_cons,List.length_nil]; omega),ze _ rfl rfl rfl,T.zk]
 have e:cat (cat (cat ([112,97,103,101,32]:zf) (nth f.2.2.1 (i:Int) (zb qu)).1) (whS (nth f.2.2.1 (i:Int) (zb qu)).2.1)) ([10]:zf)=phS (nth f.2.2.1 (i:Int) (zb qu)):=rfl
 rw[e,z6 (vX _ b (by omega))]
 dsimp only
 rw[ze _ rfl rfl rfl,T.zk,z6 (k1 _ (by rw[List.length_append]; omega))]
 dsimp only
 rw[ze _ rfl rfl rfl,T.zk,z6 (k2 _ (by rw[List.length_append,List.length_append]; omega))]
 dsimp only
 rw[ze _ rfl rfl rfl,T.zk,z7]
 unfold IF
 simp only[List.append_assoc]
theorem Gy(n k:Nat)(h:k<n):nth (List.range n) (k:Int) 0=k:=by
 rw[qZ (by rw[List.length_range]; exact h),List.getElem_range]
theorem Cm{f:Form}(h:Ok f):(f.1.flatMap Oo).length≤f.1.length*4000000:=uW Oo f.1 4000000 fun x hx=>Uq x (h.s x hx)
theorem Cn{f:Form}(h:Ok f):(f.2.1.flatMap FV).length≤f.2.1.length*4000000:=uW FV f.2.1 4000000 fun x hx=>U7 x (h.p x hx).1 (h.p x hx).2
theorem Cs{f:Form}(h:Ok f):((List.range f.2.2.1.length).flatMap (IF f)).length≤f.2.2.1.length*300000000:=by
 have:=uW (IF f) (List.range f.2.2.1.length) 300000000 (fun x hx=>H6 h (List.mem_range.1 hx))
 rwa [List.length_range]at this
theorem BC{f:Form}(h:Ok f):(f.2.2.2.2.1.flatMap LB).length≤f.2.2.2.2.1.length*4000000:=uW LB f.2.2.2.2.1 4000000 fun x hx=>by
 obtain⟨q1,q2,q3,q4⟩:=h.r x hx
 obtain⟨_,_,o1,o2⟩:=h.r2 x hx
 exact Um x q1 q2 q3 q4 o1 o2
theorem VI(f:Form)(h:Ok f):(iZ f).run=some (frS f):=by
 have hn:=h.n
 have m1:=Cm h
 have m2:=Cn h
 have m3:=Cs h
 have m4:=BC h
 have k1:(sH f f.1 (f.1.length:Int) (0,(),bytesOf [])).run=some ((),bytesOf ([]++f.1.flatMap Oo)):=by
  refine mC (r:=jZ f f.1 (f.1.length:Int)) f.1 (zb zW) 4000000 100000000000 Oo [] (fun k b x hk hx hm hb => ?_) (fun b => ?_) (fun x hx=>Uq x (h.s x hx)) (by simp only[List.length_nil]; omega)
  ·have q:=h.s x hm
   have sl:=Uq x q
   have bl:(bif x.2.1 then([32,111,110,10]:zf)else[32,111,102,102,10]).length≤5:=by cases x.2.1<;>decide
   unfold jZ
   dsimp only
   rw[za (qK hk),zc (zm hk),hx,zD _ (by simp only[List.length_cons,List.length_nil]; omega),zD _ (by simp only[qg,List.length_cons,List.length_nil]; omega),ze _ rfl rfl rfl,T.zk]
   have e:cat (cat ([115,119,105,116,99,104,32]:zf) x.1) (bif x.2.1 then([32,111,110,10]:zf)else([32,111,102,102,10]:zf))=Oo x:=rfl
   rw[e,z6 (vX (Oo x) b (by omega))]
   dsimp only
   rw[ze _ rfl rfl rfl,T.zk,z7,vr k _ hk (by omega)]
  ·unfold jZ
   dsimp only
   rw[z8 (xi _),ze _ rfl rfl rfl,T.zk,z7]
 have k2:∀ s:zf,s.length≤1000000000→(rX f f.2.1 (f.2.1.length:Int) (0,(),bytesOf s)).run=some ((),bytesOf (s++f.2.1.flatMap FV)):=fun s hs=>by
  refine mC (r:=jR f f.2.1 (f.2.1.length:Int)) f.2.1 (zb zX) 4000000 100000000000 FV s (fun k b x hk hx hm hb => ?_) (fun b => ?_) (fun x hx=>U7 x (h.p x hx).1 (h.p x hx).2) (by omega)
  ·obtain⟨q,hr⟩:=h.p x hm
   have hr:xf 1000 x.2.1:=⟨hr.1,hr.2.1,by have:=hr.2.2.1; omega,by have:=hr.2.2.2; omega⟩
   have sl:=U7 x q (h.p x hm).2
   have hd:(mS (x.2.1.1,(x.2.1.2.1,(x.2.1.2.2.1,())))).run=some (dP (norm x.2.1)):=Y8 x.2.1 hr
   have pl:=ZO _ hr
   unfold jR
   dsimp only
   rw[za (qK hk),zc (zm hk),hx,zD _ (by simp only[List.length_cons,List.length_nil]; omega),zD _ (by simp only[qg,List.length_cons,List.length_nil]; omega),z6 hd,zD _ (by simp only[qg,List.length_cons,List.length_nil]; omega),zD _ (by simp only[qg,List.length_cons,List.length_nil]; omega),ze _ rfl rfl rfl,T.zk]
   have e:cat (cat (cat (cat ([112,97,114,97,109,32]:zf) x.1) ([32]:zf)) (dP (norm x.2.1))) ([10]:zf)=FV x:=rfl
   rw[e,z6 (vX (FV x) b (by omega))]
   dsimp only
   rw[ze _ rfl rfl rfl,T.zk,z7,vr k _ hk (by omega)]
  ·unfold jR
   dsimp only
   rw[z8 (xi _),ze _ rfl rfl rfl,T.zk,z7]
 have k3:∀ s:zf,s.length≤2000000000→(sM f (f.2.2.1.length:Int) (0,(),bytesOf s)).run=some ((),bytesOf (s++(List.range f.2.2.1.length).flatMap (IF f))):=fun s hs=>by
  refine mC (r:=kt f (f.2.2.1.length:Int)) (List.range f.2.2.1.length) 0 300000000 100000000000 (IF f) s (fun k b x hk hx hm hb => ?_) (fun b => ?_) (fun x hx=>H6 h (List.mem_range.1 hx)) (by rw[List.length_range]; omega)
  ·rw[List.length_range]at hk
   rw[Gy _ _ hk]at hx
   subst hx
   unfold kt
   dsimp only
   rw[za (qK hk),ze _ rfl rfl rfl,T.zk,z6 (SU f h k hk b (by omega))]
   dsimp only
   rw[ze _ rfl rfl rfl,T.zk,z7,vr k _ hk (by omega)]
  ·unfold kt
   dsimp only
   rw[List.length_range,z8 (xi _),ze _ rfl rfl rfl,T.zk,z7]
 have k4:∀ s:zf,s.length≤20000000000→(rH f.2.2.2.2.1 (f.2.2.2.2.1.length:Int) (0,(),bytesOf s)).run=some ((),bytesOf (s++f.2.2.2.2.1.flatMap LB)):=fun s hs=>by
  refine mC (r:=ko f.2.2.2.2.1 (f.2.2.2.2.1.length:Int)) f.2.2.2.2.1 (zb zo) 4000000 100000000000 LB s (fun k b x hk hx hm hb => ?_) (fun b => ?_) (fun x hx=>by
   obtain⟨q1,q2,q3,q4⟩:=h.r x hx
   obtain⟨_,_,o1,o2⟩:=h.r2 x hx
   exact Um x q1 q2 q3 q4 o1 o2) (by omega)
  ·obtain⟨q1,q2,q3,q4⟩:=h.r x hm
   obtain⟨c1,c2,o1,o2⟩:=h.r2 x hm
   have rl:=Um x q1 q2 q3 q4 o1 o2
   have hs:=G4 x.2.2.2.1 x.2.2.2.2.1 [61] (by decide) q3 q4 o1 o2
   have sl:=Ub [61] (by decide) q3 q4 o1 o2
   have tl:=Jp x.2.1
   have wl:=tE x.2.2.1
   have c3:x.2.1<((4:Nat):Int):=Int.lt_of_le_of_lt c2 (by decide)
   unfold ko vT
   dsimp only
   rw[za (qK hk),zc (zm hk),hx]
   simp only[T.bind,cv]
   rw[zc ⟨c1,c3⟩,z2v _ c1 c2,zD _ (by simp only[List.length_cons,List.length_nil]; omega),zD _ (by simp only[qg,List.length_cons,List.length_nil]; omega),zD _ (by simp only[qg,List.length_cons,List.length_nil]; omega),z6 (Jr _ q2),
    zD _ (by simp only[qg,List.length_cons,List.length_nil]; omega),z6 hs,zD _ (by simp only[qg,List.length_cons,List.length_nil]; omega),ze _ rfl rfl rfl,zM]
   have e:cat (cat (cat (cat (cat ([114,117,108,101,32]:zf) (Fv x.2.1)) ([32]:zf)) x.1) (whS x.2.2.1)) (siS x.2.2.2.1 [61] x.2.2.2.2.1)=LB x:=rfl
   rw[e,z6 (vX (LB x) b (by omega))]
   dsimp only
   rw[ze _ rfl rfl rfl,zM,z7,vr k _ hk (by omega)]
  ·unfold ko
   dsimp only
   rw[z8 (xi _),ze _ rfl rfl rfl,T.zk,z7]
 unfold iZ
 rw[ze _ rfl rfl rfl,T.zk]
 refine(z6 k1 _).trans ?_
 dsimp only
 rw[List.nil_append,ze _ rfl rfl rfl,T.zk,z6 (k2 _ (by omega))]
 dsimp only
 rw[ze _ rfl rfl rfl,T.zk,z6 (k3 _ (by rw[List.length_append]; omega))]
 dsimp only
 rw[ze _ rfl rfl rfl,T.zk,z6 (k4 _ (by simp only[List.length_append]; omega))]
 dsimp only
 rw[ze _ rfl rfl rfl,T.zk,z6 (Yi _ (by simp only[List.length_append]; omega))]
 rfl
def pH(f:Form):Bool:=a1 f&&(a2 f&&(a3 f&&(a4 f&&(a5 f&&(a6 f&&decide (((frS f).length:Int)≤16384))))))
theorem HK(f:Form)(h:FS f):(Xg f).run=some (pH f):=by
 unfold Xg pH
 rw[z6 (Nn f h)]
 cases a1 f with
 | false=>rfl
 | true =>
 cases a2 f with
 | false=>rfl
 | true =>
 cases a3 f with
 | false=>rfl
 | true =>
 rw[za (by rfl),z6 (W6 f h)]
 cases h4:a4 f with
 | false=>rfl
 | true =>
 rw[za (by rfl),z6 (Wm f h)]
 cases h5:a5 f with
 | false=>rfl
 | true =>
 cases h6:a6 f with
 | false=>rfl
 | true =>
 rw[za (by rfl),z6 (VI f (z3L h h4 h5 h6)),z7]
 rfl
theorem z6f{r:Rat}(hr:xf 100 r):xf 100000000 r:=⟨hr.1,hr.2.1,by have:=hr.2.2.1; omega,by have:=hr.2.2.2; omega⟩
theorem z1T{r:Rat}(hr:xf 100 r):xf 1000 r:=⟨hr.1,hr.2.1,by have:=hr.2.2.1; omega,by have:=hr.2.2.2; omega⟩
theorem YP(s:zf):(fR s).run=some (nU s):=by
 unfold fR nU
 cases zH s []with
 | true=>rfl
 | false=>rw[zr,z6 (vn s)]; rfl
theorem UC(f:Form)(h:FS f):(nC f).run=some (a4 f&&a5 f):=by
 have hn:=h.n
 have k1:(Z8 f (0,0)).run=some (if a4 f=true then .inl ()else .inr false):=by
  refine tw (r:=yE f) f.2.2.2.1 (zb q7) (VJ (f.2.2.1.length:Int)) (fun x=>x.2.1) (fun at_ x h0 hb => ?_) (fun k at_ x hk hx hm h0 => ?_) (fun at_ => ?_)
  ·unfold VJ at hb
   rw[Bool.or_eq_false_iff,decide_eq_false_iff_not]at hb
   exact Int.le_trans h0 (Int.not_lt.1 hb.1)
  ·unfold yE
   dsimp only
   rw[za (qK hk),zc (zm hk),hx]
   refine(z6 (a:=(VJ (f.2.2.1.length:Int) at_ x,x)) ?_ _).trans ?_
   ·exact MW (MW (sI (vn x.1) (MW (z7 _))))
   ·dsimp only
    cases VJ (f.2.2.1.length:Int) at_ x with
    | true=>rfl
    | false=>rw[zr,z7,vr k _ hk (by omega)]; rfl
  ·unfold yE
   dsimp only
   rw[z8 (xi _),z7]
 have k2:(tX f (0,0)).run=some (if a5 f=true then .inl ()else .inr false):=by
  refine tw (r:=yt f) f.2.2.2.2.2.1 (zb zn) (VL (f.2.2.1.length:Int)) (fun x=>x.2.1) (fun at_ x h0 hb => ?_) (fun k at_ x hk hx hm h0 => ?_) (fun at_ => ?_)
  ·unfold VL at hb
   rw[Bool.or_eq_false_iff,decide_eq_false_iff_not]at hb
   exact Int.le_trans h0 (Int.not_lt.1 hb.1)
  ·obtain⟨_,x1,x2⟩:=h.c x hm
   unfold yt
   dsimp only
   rw[za (qK hk),zc (zm hk),hx]
   simp only[cv]
   refine(z6 (a:=(VL (f.2.2.1.length:Int) at_ x,x)) ?_ _).trans ?_
   ·exact MW (MW (sI (vn x.1) (MW (MW (sI (QE x1) (z5x (QE x2)))))))
   ·dsimp only
    cases VL (f.2.2.1.length:Int) at_ x with
    | true=>rfl
    | false=>rw[zr,z7,vr k _ hk (by omega)]; rfl
  ·unfold yt
   dsimp only
   rw[z8 (xi _),z7]
 unfold nC
 rw[z6 k1]
 cases a4 f with
 | false=>rfl
 | true =>
  rw[if_pos rfl,Sum.elim_inl,z6 k2]
  cases a5 f<;>rfl
theorem Zs(s:zf)(h:s.length≤600):(tH s).run=some (whS s):=Jr s h
theorem EO(n:Int)(h1:1≤n)(h2:n≤9):qP [Lb (zt (48+n))]=pw n:=by
 have:n=1∨n=2∨n=3∨n=4∨n=5∨n=6∨n=7∨n=8∨n=9:=by omega
 have e:∀ k:Nat,k<10→pw (k:Int)=[UInt8.ofNat (48+k)]:=fun k hk=>by
  unfold pw
  rw[if_neg (by omega),Int.toNat_natCast,AM.JG,dif_pos hk]
 rcases this with rfl | rfl | rfl | rfl | rfl | rfl | rfl | rfl | rfl
 ·exact(e 1 (by decide)).symm
 ·exact(e 2 (by decide)).symm
 ·exact(e 3 (by decide)).symm
 ·exact(e 4 (by decide)).symm
 ·exact(e 5 (by decide)).symm
 ·exact(e 6 (by decide)).symm
 ·exact(e 7 (by decide)).symm
 ·exact(e 8 (by decide)).symm
 ·exact(e 9 (by decide)).symm
theorem UO(x:Field)(h:x.1.length≤600)(h1:Yl 0 x.2.2.2.1)(h2:Yl x.2.2.2.1 9):(oi x).run=some (fdS x):=by
 have hi:=fun h0:Yl 1 x.2.2.2.1=>EO x.2.2.2.1 h0 h2
 have hb:(qP ([(Lb (zt ((48:Int)+x.2.2.2.1)))]:List Int)).length=1:=rfl
 have hz:¬ ilt 0 x.2.2.2.1→x.2.2.2.1=(0:Int):=fun q=>Int.le_antisymm (Int.not_lt.1 q) h1
 have ho:ilt 0 x.2.2.2.1→Yl 1 x.2.2.2.1:=fun q=>by unfold Yl ilt at *; omega
 have hf:(fhS x).length≤x.1.length+11:=GD _
 unfold oi fdS
 have e:(bif x.2.2.1 then(cat (cat ([102,105,101,108,100,32]:zf) x.1) ([32,109,117,115,116]:zf))else(cat ([102,105,101,108,100,32]:zf) x.1))=fhS x:=rfl
 rw[zD _ (by simp only[List.length_cons,List.length_nil]; omega),zc (fun _=>by simp only[qg,List.length_cons,List.length_nil]; omega),e]
 clear e
 by_cases hs:ilt 0 x.2.2.2.1
 ·have uj:(x.2.2.2.1 != (0:Int))=true:=by
   rw[bne_iff_ne]; intro q; unfold ilt at hs; rw[q]at hs; exact absurd hs (by decide)
  rw[za uj,zD _ (by simp only[List.length_cons,List.length_nil]; omega),zD _ (by simp only[qg,List.length_cons,List.length_nil]; omega),zD _ (by simp only[qg,List.length_cons,List.length_nil]; omega),z7,if_pos hs,hi (ho hs)]
  simp only[ct,List.append_assoc]
 ·have uj:(x.2.2.2.1 != (0:Int))=false:=by rw[hz hs]; rfl
  rw[z8 uj,zD _ (by simp only[List.length_cons,List.length_nil]; omega),z7,if_neg hs]
  rfl
theorem z13(n:Int):(Xs n).run=some (KV n):=by
 unfold Xs KV
 by_cases h1:n=1
 ·rw[if_pos h1,za (by rw[h1]; rfl),z7]
 ·rw[if_neg h1,z8 (by simpa using h1)]
  by_cases h2:n=2
  ·rw[if_pos h2,za (by rw[h2]; rfl),z7]
  ·rw[if_neg h2,z8 (by simpa using h2),z7]
theorem Hv(n:Int):(cF n).run=some (Fv n):=by
 unfold cF Fv
 by_cases h0:n=0
 ·rw[if_pos h0,za (by rw[h0]; rfl),z7]
 ·rw[if_neg h0,z8 (by simpa using h0)]
  by_cases h1:n=1
  ·rw[if_pos h1,za (by rw[h1]; rfl),z7]
  ·rw[if_neg h1,z8 (by simpa using h1)]
   by_cases h2:n=2
   ·rw[if_pos h2,za (by rw[h2]; rfl),z7]
   ·rw[if_neg h2,z8 (by simpa using h2),z7]
theorem Y0(f:Form)(h:Ok f):(td f).run=some (frS f):=by
 have hn:=h.n
 have m1:=Cm h
 have m2:=Cn h
 have m3:=Cs h
 have m4:=BC h
 have k1:(Qr f ([],0)).run=some ([]++f.1.flatMap Oo):=by
  refine mR (r:=bq f) f.1 (zb zW) 4000000 100000000000 Oo [] (fun k b x hk hx hm hb => ?_) (fun b => ?_) (fun x hx=>Uq x (h.s x hx)) (by simp only[List.length_nil]; omega)
  ·have q:=h.s x hm
   have bl:(bif x.2.1 then([32,111,110,10]:zf)else[32,111,102,102,10]).length≤5:=by cases x.2.1<;>decide
   unfold bq
   dsimp only
   rw[hx,za (qK hk),zc (zm hk),zD _ (by simp only[qg,List.length_cons,List.length_nil]; omega),zc (zm hk),zD _ (by simp only[qg,List.length_cons,List.length_nil]; omega),zD _ (by simp only[qg,List.length_cons,List.length_nil]; omega),z7,vr k _ hk (by omega)]
   unfold Oo
   simp only[ct,List.append_assoc]
  ·unfold bq
   dsimp only
   rw[z8 (xi _),z7]
 have k2:∀ s:zf,s.length≤1000000000→(QT f (s,0)).run=some (s++f.2.1.flatMap FV):=fun s hs=>by
  refine mR (r:=bN f) f.2.1 (zb zX) 4000000 100000000000 FV s (fun k b x hk hx hm hb => ?_) (fun b => ?_) (fun x hx=>U7 x (h.p x hx).1 (h.p x hx).2) (by omega)
  ·obtain⟨q,hr⟩:=h.p x hm
   have hr:=z1T hr
   have pl:=ZO _ hr
   unfold bN
   dsimp only
   rw[hx,za (qK hk),zD _ (by simp only[qg,List.length_cons,List.length_nil]; omega),zc (zm hk),zD _ (by simp only[qg,List.length_cons,List.length_nil]; omega),zD _ (by simp only[qg,List.length_cons,List.length_nil]; omega),zc (zm hk),z6 (Kx _ hr),
    zD _ (by simp only[qg,List.length_cons,List.length_nil]; omega),zD _ (by simp only[qg,List.length_cons,List.length_nil]; omega),z7,vr k _ hk (by omega)]
   unfold FV
   simp only[ct,List.append_assoc]
  ·unfold bN
   dsimp only
   rw[z8 (xi _),z7]
 have j1:∀ (i:Nat) (s:zf),s.length≤200000000000→(Xi f (i:Int) (s,0)).run=some (s++f.2.2.2.1.flatMap (Ou i)):=fun i s hs=>by
  refine mR (r:=bh f (i:Int)) f.2.2.2.1 (zb q7) 4000000 400000000000 (Ou i) s (fun k b x hk hx hm hb => ?_) (fun b => ?_) (Ql h i) (by omega)
  ·unfold bh Ou
   dsimp only
   rw[hx,za (qK hk),zc (zm hk)]
   cases hc:x.2.1==(i:Int)with
   | true =>
    have fl:=HT x (h.d x hm) (h.d2 x hm).1 (h.d2 x hm).2
    rw[zy,zc (zm hk),z6 (UO x (h.d x hm) (h.d2 x hm).1 (h.d2 x hm).2),zD _ (by omega),z7,vr k _ hk (by omega),if_pos rfl,ct]
   | false=>rw[zr,z7,vr k _ hk (by omega),if_neg (by decide),List.append_nil]
  ·unfold bh
   dsimp only
   rw[z8 (xi _),z7]
 have j2:∀ (i:Nat) (s:zf),s.length≤400000000000→(QZ f (i:Int) (s,0)).run=some (s++f.2.2.2.2.2.1.flatMap (ckI i)):=fun i s hs=>by
  refine mR (r:=bj f (i:Int)) f.2.2.2.2.2.1 (zb zn) 4000000 800000000000 (ckI i) s (fun k b x hk hx hm hb => ?_) (fun b => ?_) (Hk h i) (by omega)
  ·unfold bj ckI
   dsimp only
   rw[hx,za (qK hk),zc (zm hk)]
   simp only[cv]
   cases hc:x.2.1==(i:Int)with
   | true =>
    obtain⟨q1,q2,q3⟩:=h.c x hm
    obtain⟨c1,c2,o1,o2⟩:=h.c2 x hm
    have p1:=dL q2 o1
    have p2:=dL q3 o2
    have cl:=XK x.2.2.1
    rw[zy,zD _ (by simp only[qg,List.length_cons,List.length_nil]; omega),zD _ (by simp only[qg,List.length_cons,List.length_nil]; omega),zD _ (by simp only[qg,List.length_cons,List.length_nil]; omega),z6 (X7 q2 o1),
     zD _ (by simp only[qg,List.length_cons,List.length_nil]; omega),zD _ (by simp only[qg,List.length_cons,List.length_nil]; omega),z6 (z13 _),zD _ (by simp only[qg,List.length_cons,List.length_nil]; omega),zD _ (by simp only[qg,List.length_cons,List.length_nil]; omega),
     z6 (X7 q3 o2),zD _ (by simp only[qg,List.length_cons,List.length_nil]; omega),zD _ (by simp only[qg,List.length_cons,List.length_nil]; omega),z7,vr k _ hk (by omega),if_pos rfl]
    unfold ckS siS
    simp only[ct,List.append_assoc]
   | false=>rw[zr,z7,vr k _ hk (by omega),if_neg (by decide),List.append_nil]
  ·unfold bj
   dsimp only
   rw[z8 (xi _),z7]
 have k3:∀ s:zf,s.length≤2000000000→(X0 f (s,0)).run=some (s++(List.range f.2.2.1.length).flatMap (IF f)):=fun s hs=>by
  refine mR (r:=bR f) (List.range f.2.2.1.length) 0 300000000 100000000000 (IF f) s (fun k b x hk hx hm hb => ?_) (fun b => ?_) (fun x hx=>H6 h (List.mem_range.1 hx)) (by rw[List.length_range]; omega)
  ·rw[List.length_range]at hk
   rw[Gy _ _ hk]at hx
   subst hx
   obtain⟨g1,g2⟩:=Mq h hk
   have hw:=tE (nth f.2.2.1 (k:Int) (zb qu)).2.1
   have fl:=uW (Ou k) f.2.2.2.1 4000000 (Ql h k)
   have:f.2.2.2.1.length*4000000≤30*4000000:=Nat.mul_le_mul_right _ (by omega)
   unfold bR
   dsimp only
   rw[za (qK hk),zD _ (by simp only[qg,List.length_cons,List.length_nil]; omega),zc (zm hk),zD _ (by simp only[qg,List.length_cons,List.length_nil]; omega),zc (zm hk),z6 (Zs _ g2),zD _ (by simp only[qg,List.length_cons,List.length_nil]; omega),zD _ (by simp only[qg,List.length_cons,List.length_nil]; omega),
    z6 (j1 k _ (by simp only[qg,List.length_cons,List.length_nil]; omega)),z6 (j2 k _ (by simp only[List.length_append,qg,List.length_cons,List.length_nil]; omega)),z7,vr k _ hk (by omega)]
   unfold IF phS
   simp only[ct,List.append_assoc]
  ·unfold bR
   dsimp only
   rw[List.length_range,z8 (xi _),z7]
 have k4:∀ s:zf,s.length≤20000000000→(Xw f (s,0)).run=some (s++f.2.2.2.2.1.flatMap LB):=fun s hs=>by
  refine mR (r:=bC f) f.2.2.2.2.1 (zb zo) 4000000 100000000000 LB s (fun k b x hk hx hm hb => ?_) (fun b => ?_) (fun x hx=>by
   obtain⟨q1,q2,q3,q4⟩:=h.r x hx
   obtain⟨_,_,o1,o2⟩:=h.r2 x hx
   exact Um x q1 q2 q3 q4 o1 o2) (by omega)
  ·obtain⟨q1,q2,q3,q4⟩:=h.r x hm
   obtain⟨c1,c2,o1,o2⟩:=h.r2 x hm
   have p1:=dL q3 o1
   have p2:=dL q4 o2
   have tl:=Jp x.2.1
   have wl:=tE x.2.2.1
   unfold bC
   dsimp only
   rw[hx,za (qK hk),zc (zm hk)]
   simp only[cv]
   rw[zD _ (by simp only[qg,List.length_cons,List.length_nil]; omega),z6 (Hv _),zD _ (by simp only[qg,List.length_cons,List.length_nil]; omega),zD _ (by simp only[qg,List.length_cons,List.length_nil]; omega),zD _ (by simp only[qg,List.length_cons,List.length_nil]; omega),z6 (Zs _ q2),
    zD _ (by simp only[qg,List.length_cons,List.length_nil]; omega),zD _ (by simp only[qg,List.length_cons,List.length_nil]; omega),z6 (X7 q3 o1),zD _ (by simp only[qg,List.length_cons,List.length_nil]; omega),zD _ (by simp only[qg,List.length_cons,List.length_nil]; omega),z6 (X7 q4 o2),
    zD _ (by simp only[qg,List.length_cons,List.length_nil]; omega),zD _ (by simp only[qg,List.length_cons,List.length_nil]; omega),z7,vr k _ hk (by omega)]
   unfold LB siS
   simp only[ct,List.append_assoc,List.cons_append,List.nil_append]
  ·unfold bC
   dsimp only
   rw[z8 (xi _),z7]
 unfold td
 rw[z6 k1,List.nil_append,z6 (k2 _ (by omega)),z6 (k3 _ (by rw[List.length_append]; omega)),z6 (k4 _ (by simp only[List.length_append]; omega)),z7]
 rfl
theorem BQ(f:Form)(h:FS f):(Ug f).run=some (pH f):=by
 have hn:=h.n
 have k1:(KK f 0).run=some (if f.1.any KD=true then .inr false else .inl ()):=by
  refine XM (r:=iJ f) f.1 (zb zW) KD (fun k x hk hx hm => ?_) ?_
  ·unfold iJ KD
   dsimp only
   rw[za (qK hk),zc (zm hk),hx,z6 (vn x.1)]
   cases xY x.1 with
   | true=>rw[z8 (by rfl),z7,vr k _ hk (by omega)]; rfl
   | false=>rfl
  ·unfold iJ
   rw[z8 (xi _),z7]
 have k2:(JY f 0).run=some (if f.2.1.any fE=true then .inr false else .inl ()):=by
  refine XM (r:=fU f) f.2.1 (zb zX) fE (fun k x hk hx hm => ?_) ?_
  ·unfold fU
   dsimp only
   rw[za (qK hk)]
   refine(z6 (a:=fE x) ?_ _).trans ?_
   ·rw[zc (zm hk),hx]
    refine(Ve (vn x.1) ((zc (zm hk) _).trans (Pg (mc _ (z6f (h.p x hm).2))))).trans ?_
    unfold fE
    cases dR x.2.1<;>cases wW x.2.1<;>rfl
   ·cases fE x with
    | true=>rfl
    | false=>rw[zr,z7,vr k _ hk (by omega)]; rfl
  ·unfold fU
   rw[z8 (xi _),z7]
 have k3:(UZ f 0).run=some (if f.2.2.1.any K1=true then .inr false else .inl ()):=by
  refine XM (r:=fQ f) f.2.2.1 (zb qu) K1 (fun k x hk hx hm => ?_) ?_
  ·unfold fQ
   dsimp only
   rw[za (qK hk)]
   refine(z6 (a:=K1 x) ?_ _).trans ?_
   ·rw[zc (zm hk),hx]
    exact Ve (vn x.1) ((zc (zm hk) _).trans (Pg (YP _)))
   ·cases K1 x with
    | true=>rfl
    | false=>rw[zr,z7,vr k _ hk (by omega)]; rfl
  ·unfold fQ
   rw[z8 (xi _),z7]
 have k4:(Ks f 0).run=some (if f.2.2.2.2.1.any QK=true then .inr false else .inl ()):=by
  refine XM (r:=fY f) f.2.2.2.2.1 (zb zo) QK (fun k x hk hx hm => ?_) ?_
  ·obtain⟨_,_,x1,x2⟩:=h.r x hm
   unfold fY
   dsimp only
   rw[za (qK hk),zc (zm hk),hx]
   simp only[cv]
   refine(z6 (a:=(QK x,x)) ?_ _).trans ?_
   ·exact sI (vn x.1) (sI (YP _) (MW (MW (sI (QE x1) (z5x (QE x2))))))
   ·dsimp only
    cases QK x with
    | true=>rfl
    | false=>rw[zr,z7,vr k _ hk (by omega)]; rfl
  ·unfold fY
   rw[z8 (xi _),z7]
 unfold Ug pH
 rw[z6 k1]
 have e1:a1 f = !f.1.any KD:=rfl
 have e2:a2 f = !f.2.1.any fE:=rfl
 have e3:a3 f = !f.2.2.1.any K1:=rfl
 have e6:a6 f = !f.2.2.2.2.1.any QK:=rfl
 rw[e1,e2,e3]
 cases f.1.any KD with
 | true=>rfl
 | false =>
 rw[if_neg (by decide),Sum.elim_inl,z6 k2]
 cases f.2.1.any fE with
 | true=>rfl
 | false =>
 rw[if_neg (by decide),Sum.elim_inl,z6 k3]
 cases f.2.2.1.any K1 with
 | true=>rfl
 | false =>
 rw[if_neg (by decide),Sum.elim_inl,z6 k4]
 cases q6:f.2.2.2.2.1.any QK with
 | true=>rw[e6,q6]; cases a4 f<;>cases a5 f<;>rfl
 | false =>
 rw[if_neg (by decide),Sum.elim_inl,z6 (UC f h)]
 cases h4:a4 f with
 | false=>rfl
 | true =>
 cases h5:a5 f with
 | false=>rfl
 | true =>
 have h6:a6 f=true:=by rw[e6,q6]; rfl
 rw[za (by rfl),z6 (Y0 f (z3L h h4 h5 h6)),z7,h6]
 rfl
theorem my{α β σ ρ:Type}(l:List α)(d:α)(C B:Nat)(g:α→List β)(e:List β→Int→σ)(fin:List β→ρ)(s:List β){r:σ→T (σ⊕ρ)}
  (step:∀ (k:Nat) (b:List β) (x:α),k<l.length→nth l (k:Int) d=x→x∈l→b.length+C≤B→(r (e b (k:Int))).run=some (.inl (e (b++g x) ((k+1:Nat):Int))))
  (done:∀ b,b.length≤B→(r (e b (l.length:Int))).run=some (.inr (fin b))) (hg:∀ x∈l,(g x).length≤C) (hB:s.length+l.length*C≤B):(T.loop r (e s 0)).run=some (fin (s++l.flatMap g)):=by
 have ef:∀ (l:List α) (s:List β),l.foldl (fun s x=>s++g x) s=s++l.flatMap g:=by
  intro l
  induction l with
  | nil=>intro s; simp
  | cons x r ih=>intro s; rw[List.foldl_cons,ih,List.flatMap_cons,List.append_assoc]
 rw[← ef]
 refine T.oJ (r:=r) l d e (fun k b=>b.length≤s.length+k*C) (fun b x=>b++g x) fin (fun k b x hk hx hm hI => ?_) (fun b hI=>done b (by omega)) (b:=s) (by omega)
 have h4:=Qu (c:=C) (show k+1≤l.length from hk)
 rw[Nat.add_mul,Nat.one_mul]at h4
 refine⟨step k b x hk hx hm (by omega),?_⟩
 have:=hg x hm
 rw[List.length_append,Nat.add_mul,Nat.one_mul]
 omega
theorem z6u{α β:Type}(h:α→β)(l:List α):l.flatMap (fun x=>[h x])=l.map h:=by
 induction l with
 | nil=>rfl
 | cons x r ih=>rw[List.flatMap_cons,ih]; rfl
theorem uh{α:Type}(l:List α)(d:α)(h:α→zf)(s:List zf){r:Int×List zf→T ((Int×List zf)⊕List zf)}
  (step:∀ (k:Nat) (b:List zf) (x:α),k<l.length→nth l (k:Int) d=x→x∈l→b.length≤3000000→(r ((k:Int),b)).run=some (.inl (((k+1:Nat):Int),b++[h x])))
  (done:∀ b,(r ((l.length:Int),b)).run=some (.inr b)) (hB:s.length+l.length≤3000000):(T.loop r (0,s)).run=some (s++l.map h):=by
 have:=my (r:=r) l d 1 3000000 (fun x=>[h x]) (fun b i=>(i,b)) (fun b=>b) s (fun k b x hk hx hm hb=>step k b x hk hx hm (by omega)) (fun b _=>done b) (fun _ _=>Nat.le_refl _) (by omega)
 rwa [z6u]at this
def QG{β ρ:Type}(h:β→ρ)(y:ρ):Option β→ρ
 | some z=>h z
 | none=>y
theorem ff{α β σ ρ:Type}(l:List α)(d:α)(q:α→Option β)(e:Int→σ)(h:β→ρ)(y:ρ){r:σ→T (σ⊕ρ)}
  (step:∀ (k:Nat) (x:α),k<l.length→nth l (k:Int) d=x→x∈l→(r (e (k:Int))).run=some (QG (fun z=>.inr (h z)) (.inl (e ((k+1:Nat):Int))) (q x)))
  (done:(r (e (l.length:Int))).run=some (.inr y)):(T.loop r (e 0)).run=some (QG h y (l.findSome? q)):=by
 refine T.js (r:=r) l d (fun(_:Unit) i=>e i) (fun _ _=>True) (fun xs _=>QG h y (xs.findSome? q)) (fun k b x xs hk hx hm _ _ => ?_) (fun b _ => ?_) (b:=()) trivial
 ·rw[step k x hk hx hm,List.findSome?_cons]
  cases q x with
  | some z=>exact .inr rfl
  | none=>exact .inl ⟨(),rfl,trivial,rfl⟩
 ·exact done
def pick{α:Type}(p:α→Bool)(x:α):Option α:=if p x=true then some x else none
theorem Ip{α:Type}(p:α→Bool)(d:α)(l:List α):(l.findSome? (pick p)=none∧PL.vL p 0 l = -1)∨∃ (x:α) (k:Nat),l.findSome? (pick p)=some x∧PL.vL p 0 l=(k:Int)∧k<l.length∧nth l (k:Int) d=x:=by
 have gen:∀ (l:List α) (j:Nat),(l.findSome? (pick p)=none∧PL.vL p (j:Int) l = -1)∨∃ (x:α) (k:Nat),l.findSome? (pick p)=some x∧PL.vL p (j:Int) l=((j+k:Nat):Int)∧k<l.length∧nth l (k:Int) d=x:=by
  intro l
  induction l with
  | nil=>intro j; exact .inl ⟨rfl,rfl⟩
  | cons x r ih =>
   intro j
   rw[List.findSome?_cons]
   unfold PL.vL pick
   cases hp:p x with
   | true=>exact .inr ⟨x,0,rfl,rfl,Nat.zero_lt_succ _,rfl⟩
   | false =>
    rw[if_neg (by decide),if_neg (by decide)]
    rcases ih (j+1)with⟨h1,h2⟩ | ⟨y,k,h1,h2,h3,h4⟩
    ·exact .inl ⟨h1,h2⟩
    ·refine .inr ⟨y,k+1,h1,h2.trans (by rw[show j+1+k=j+(k+1) by omega]),Nat.succ_lt_succ h3,?_⟩
     rw[qZ (Nat.succ_lt_succ h3),List.getElem_cons_succ]
     rwa [qZ h3]at h4
 rcases gen l 0 with h | ⟨x,k,h1,h2,h3,h4⟩
 ·exact .inl h
 ·exact .inr ⟨x,k,h1,h2.trans (by rw[Nat.zero_add]),h3,h4⟩
theorem XP(l:List zf)(g:zf→T Bool)(p:zf→Bool)(hg:∀ x∈l,(g x).run=some (p x))(hl:l.length≤1000000000):(ql l g).run=some (PL.vL p 0 l):=by
 have key:(wV l g (l.length:Int) 0).run=some (if PL.vL p 0 l = -1 then .inl ()else .inr (PL.vL p 0 l)):=by
  refine PL.yS l (zb .str) p (fun i h hi hp => ?_) (fun i h hi hp => ?_) (fun i hi => ?_)
  ·have hm:=vk (d:=zb .str) h hi
   simp(disch:=omega) [qc,hi,hg _ hm,hp]
  ·have hm:=vk (d:=zb .str) h hi
   simp(disch:=omega) [qc,hi,hg _ hm,hp]
  ·simp[qc,hi]
 unfold ql
 rw[z6 key]
 split<;>rename_i h<;>simp[h]
theorem any_map(α:Type)(h:α→zf)(s:zf)(l:List α):l.any (fun x=>zH (h x) s)=decide (s∈l.map h):=by
 induction l with
 | nil=>rfl
 | cons x r ih =>
  rw[List.any_cons,ih,List.map_cons,wm]
  by_cases q:h x=s
  ·rw[decide_eq_true q,decide_eq_true (List.mem_cons.2 (.inl q.symm))]; rfl
  ·rw[decide_eq_false q,Bool.false_or]
   exact decide_eq_decide.2 ⟨fun h=>List.mem_cons_of_mem _ h,fun h=>(List.mem_cons.1 h).resolve_left fun e=>q e.symm⟩
def tS(f:Form):List zf:=f.1.map (·.1)++f.2.1.map (·.1)++f.2.2.1.map (·.1)++f.2.2.2.1.map (·.1)++f.2.2.2.2.1.map (·.1)++f.2.2.2.2.2.1.map (·.1)
theorem ny(f:Form)(h:FS f):(gH f).run=some (f.2.2.2.1.map (·.1)):=by
 have hn:=h.n
 have k:(pR f (0,[])).run=some ([]++f.2.2.2.1.map (·.1)):=by
  refine uh (r:=jO f) f.2.2.2.1 (zb q7) (·.1) [] (fun k b x hk hx hm hb => ?_) (fun b => ?_) (by simp only[List.length_nil]; omega)
  ·unfold jO
   dsimp only
   rw[hx,za (qK hk),zc (zm hk),xc _ rfl rfl rfl (by omega),ze _ (by simp) rfl (by simp),zc (by simp),z7,vr k _ hk (by omega)]
  ·unfold jO
   dsimp only
   rw[z8 (xi _),ze _ rfl rfl rfl,T.zk,z7]
 unfold gH
 rw[ze _ rfl rfl rfl,T.zk,z6 k,T.zk,z7]
 simp only[List.nil_append,Nat.zero_add,List.take_length,List.drop_zero]
theorem VU(f:Form)(h:FS f):(lM f).run=some (tS f):=by
 have hn:=h.n
 have k0:∀ s:List zf,s.length≤1000→(rD f f.1 (f.1.length:Int) (0,s)).run=some (s++f.1.map (·.1)):=fun s hs=>by
  refine uh (r:=kH f f.1 (f.1.length:Int)) f.1 (zb zW) (·.1) s (fun k b x hk hx hm hb => ?_) (fun b => ?_) (by omega)
  ·unfold kH
   dsimp only
   rw[hx,za (qK hk),zc (zm hk),xc _ rfl rfl rfl (by omega),ze _ (by simp) rfl (by simp),zc (by simp),z7,vr k _ hk (by omega)]
  ·unfold kH
   dsimp only
   rw[z8 (xi _),ze _ rfl rfl rfl,T.zk,z7]
 have k1:∀ s:List zf,s.length≤1000→(si f f.2.1 (f.2.1.length:Int) (0,s)).run=some (s++f.2.1.map (·.1)):=fun s hs=>by
  refine uh (r:=ke f f.2.1 (f.2.1.length:Int)) f.2.1 (zb zX) (·.1) s (fun k b x hk hx hm hb => ?_) (fun b => ?_) (by omega)
  ·unfold ke
   dsimp only
   rw[hx,za (qK hk),zc (zm hk),xc _ rfl rfl rfl (by omega),ze _ (by simp) rfl (by simp),zc (by simp),z7,vr k _ hk (by omega)]
  ·unfold ke
   dsimp only
   rw[z8 (xi _),ze _ rfl rfl rfl,T.zk,z7]
 have k2:∀ s:List zf,s.length≤1000→(rK f f.2.2.1 (f.2.2.1.length:Int) (0,s)).run=some (s++f.2.2.1.map (·.1)):=fun s hs=>by
  refine uh (r:=kf f f.2.2.1 (f.2.2.1.length:Int)) f.2.2.1 (zb qu) (·.1) s (fun k b x hk hx hm hb => ?_) (fun b => ?_) (by omega)
  ·unfold kf
   dsimp only
   rw[hx,za (qK hk),zc (zm hk),xc _ rfl rfl rfl (by omega),ze _ (by simp) rfl (by simp),zc (by simp),z7,vr k _ hk (by omega)]
  ·unfold kf
   dsimp only
   rw[z8 (xi _),ze _ rfl rfl rfl,T.zk,z7]
 have k3:∀ s:List zf,s.length≤1000→(pT f f.2.2.2.1 (f.2.2.2.1.length:Int) (0,s)).run=some (s++f.2.2.2.1.map (·.1)):=fun s hs=>by
  refine uh (r:=kF f f.2.2.2.1 (f.2.2.2.1.length:Int)) f.2.2.2.1 (zb q7) (·.1) s (fun k b x hk hx hm hb => ?_) (fun b => ?_) (by omega)
  ·unfold kF
   dsimp only
   rw[hx,za (qK hk),zc (zm hk),xc _ rfl rfl rfl (by omega),ze _ (by simp) rfl (by simp),zc (by simp),z7,vr k _ hk (by omega)]
  ·unfold kF
   dsimp only
   rw[z8 (xi _),ze _ rfl rfl rfl,T.zk,z7]
 have k4:∀ s:List zf,s.length≤1000→(rL f f.2.2.2.2.1 (f.2.2.2.2.1.length:Int) (0,s)).run=some (s++f.2.2.2.2.1.map (·.1)):=fun s hs=>by
  refine uh (r:=kA f f.2.2.2.2.1 (f.2.2.2.2.1.length:Int)) f.2.2.2.2.1 (zb zo) (·.1) s (fun k b x hk hx hm hb => ?_) (fun b => ?_) (by omega)
  ·unfold kA
   dsimp only
   rw[hx,za (qK hk),zc (zm hk),xc _ rfl rfl rfl (by omega),ze _ (by simp) rfl (by simp),zc (by simp),z7,vr k _ hk (by omega)]
  ·unfold kA
   dsimp only
   rw[z8 (xi _),ze _ rfl rfl rfl,T.zk,z7]
 have k5:∀ s:List zf,s.length≤1000→(sx f.2.2.2.2.2.1 (f.2.2.2.2.2.1.length:Int) (0,s)).run=some (s++f.2.2.2.2.2.1.map (·.1)):=fun s hs=>by
  refine uh (r:=kD f.2.2.2.2.2.1 (f.2.2.2.2.2.1.length:Int)) f.2.2.2.2.2.1 (zb zn) (·.1) s (fun k b x hk hx hm hb => ?_) (fun b => ?_) (by omega)
  ·unfold kD
   dsimp only
   rw[hx,za (qK hk),zc (zm hk),xc _ rfl rfl rfl (by omega),ze _ (by simp) rfl (by simp),zc (by simp),z7,vr k _ hk (by omega)]
  ·unfold kD
   dsimp only
   rw[z8 (xi _),ze _ rfl rfl rfl,T.zk,z7]
 unfold lM
 rw[ze _ rfl rfl rfl,T.zk,z6 (k0 _ (by simp)),List.nil_append,ze _ rfl rfl rfl,T.zk,z6 (k1 _ (by simp only[List.length_append,List.length_map]; omega)),ze _ rfl rfl rfl,T.zk,z6 (k2 _ (by simp only[List.length_append,List.length_map]; omega)),ze _ rfl rfl rfl,T.zk,z6 (k3 _ (by simp only[List.length_append,List.length_map]; omega)),ze _ rfl rfl rfl,T.zk,z6 (k4 _ (by simp only[List.length_append,List.length_map]; omega)),ze _ rfl rfl rfl,T.zk,z6 (k5 _ (by simp only[List.length_append,List.length_map]; omega)),T.zk,z7]
 simp only[Nat.zero_add,List.take_length,List.drop_zero]
 rfl
theorem KJ(f:Form)(h:FS f):(ot f).run=some (tS f):=by
 have hn:=h.n
 have k0:∀ s:List zf,s.length≤1000→(Zb f (0,s)).run=some (s++f.1.map (·.1)):=fun s hs=>by
  refine uh (r:=yG f) f.1 (zb zW) (·.1) s (fun k b x hk hx hm hb => ?_) (fun b => ?_) (by omega)
  ·unfold yG
   dsimp only
   rw[hx,za (qK hk),zc (zm hk),xc _ rfl rfl rfl (by omega),ze _ (by simp) rfl (by simp),zc (by simp),z7,vr k _ hk (by omega)]
  ·unfold yG
   dsimp only
   rw[z8 (xi _),ze _ rfl rfl rfl,T.zk,z7]
 have k1:∀ s:List zf,s.length≤1000→(Zp f (0,s)).run=some (s++f.2.1.map (·.1)):=fun s hs=>by
  refine uh (r:=yN f) f.2.1 (zb zX) (·.1) s (fun k b x hk hx hm hb => ?_) (fun b => ?_) (by omega)
  ·unfold yN
   dsimp only
   rw[hx,za (qK hk),zc (zm hk),xc _ rfl rfl rfl (by omega),ze _ (by simp) rfl (by simp),zc (by simp),z7,vr k _ hk (by omega)]
  ·unfold yN
   dsimp only
   rw[z8 (xi _),ze _ rfl rfl rfl,T.zk,z7]
 have k2:∀ s:List zf,s.length≤1000→(tV f (0,s)).run=some (s++f.2.2.1.map (·.1)):=fun s hs=>by
  refine uh (r:=yx f) f.2.2.1 (zb qu) (·.1) s (fun k b x hk hx hm hb => ?_) (fun b => ?_) (by omega)
  ·unfold yx
   dsimp only
   rw[hx,za (qK hk),zc (zm hk),xc _ rfl rfl rfl (by omega),ze _ (by simp) rfl (by simp),zc (by simp),z7,vr k _ hk (by omega)]
  ·unfold yx
   dsimp only
   rw[z8 (xi _),ze _ rfl rfl rfl,T.zk,z7]
 have k3:∀ s:List zf,s.length≤1000→(tU f (0,s)).run=some (s++f.2.2.2.2.1.map (·.1)):=fun s hs=>by
  refine uh (r:=ym f) f.2.2.2.2.1 (zb zo) (·.1) s (fun k b x hk hx hm hb => ?_) (fun b => ?_) (by omega)
  ·unfold ym
   dsimp only
   rw[hx,za (qK hk),zc (zm hk),xc _ rfl rfl rfl (by omega),ze _ (by simp) rfl (by simp),zc (by simp),z7,vr k _ hk (by omega)]
  ·unfold ym
   dsimp only
   rw[z8 (xi _),ze _ rfl rfl rfl,T.zk,z7]
 have k4:∀ s:List zf,s.length≤1000→(Zt f (0,s)).run=some (s++f.2.2.2.2.2.1.map (·.1)):=fun s hs=>by
  refine uh (r:=yy f) f.2.2.2.2.2.1 (zb zn) (·.1) s (fun k b x hk hx hm hb => ?_) (fun b => ?_) (by omega)
  ·unfold yy
   dsimp only
   rw[hx,za (qK hk),zc (zm hk),xc _ rfl rfl rfl (by omega),ze _ (by simp) rfl (by simp),zc (by simp),z7,vr k _ hk (by omega)]
  ·unfold yy
   dsimp only
   rw[z8 (xi _),ze _ rfl rfl rfl,T.zk,z7]
 unfold ot
 rw[ze _ rfl rfl rfl,T.zk,z6 (k0 _ (by simp)),List.nil_append,ze _ rfl rfl rfl,T.zk,z6 (k1 _ (by simp only[List.length_append,List.length_map]; omega)),ze _ rfl rfl rfl,T.zk,z6 (k2 _ (by simp only[List.length_append,List.length_map]; omega)),z6 (ny f h),xc _ rfl rfl rfl (by simp only[List.length_append,List.length_map]; omega),ze _ List.length_append.symm rfl List.length_append.symm,zc List.length_append.symm,z6 (k3 _ (by simp only[List.length_append,List.length_map]; omega)),ze _ rfl rfl rfl,T.zk,z6 (k4 _ (by simp only[List.length_append,List.length_map]; omega)),T.zk,z7]
 simp only[Nat.zero_add,List.take_length,List.drop_zero]
 rfl
theorem OC(seen:List zf)(x:zf)(r:List zf):tT seen (x::r)=if x∈seen then(x,true)else tT (seen++[x]) r:=rfl
theorem Mg:∀ (l seen:List zf),(tT seen l).2=true→(tT seen l).1∈l
 | [],_,h=>by cases h
 | x::r,seen,h=>by
  unfold tT at h ⊢
  split
  ·exact List.mem_cons_self
  ·rename_i q
   rw[if_neg q]at h
   exact List.mem_cons_of_mem _ (Mg r _ h)
theorem K2:∀ (l seen:List zf),(tT seen l).2=false→(tT seen l).1=[]
 | [],_,_=>rfl
 | x::r,seen,h=>by
  unfold tT at h ⊢
  split
  ·rename_i q
   rw[if_pos q]at h; cases h
  ·rename_i q
   rw[if_neg q]at h
   exact K2 r _ h
theorem VS(l:List zf)(hl:l.length≤1000000)(hs:∀ s∈l,s.length≤1000000):(lN l).run=some (tT [] l):=by
 unfold lN
 rw[zc ⟨by omega,fun s h=>by have:=hs s h; omega⟩,z7]
theorem JW(l:List zf)(hl:l.length≤1000000):(nn l).run=some (tT [] l).1:=by
 have key:(Z4 l 0).run=some (if(tT [] l).2=true then .inr (tT [] l).1 else .inl ()):=by
  refine T.js (r:=yF l) l (zb .str) (fun(_:List zf) i=>i) (fun k b=>b=l.take k) (fun xs b=>if(tT b xs).2=true then .inr (tT b xs).1 else .inl ()) (fun k b x xs hk hx hm hd hb => ?_) (fun b _ => ?_) (b:=[]) rfl
  ·subst hb
   unfold yF
   dsimp only
   have hc:uu (e:=.str) (0:Int) (k:Int) l=l.take k:=by unfold uu; simp
   have hh:=hO (l.take k) x (by rw[List.length_take]; omega)
   rw[za (qK hk),zc (Ta.2 ⟨by omega,by omega,by omega⟩),zc (zm hk),hc,hx,z6 hh,OC]
   by_cases q:x∈l.take k
   ·right
    rw[decide_eq_true q,zy,zc (zm hk),z7,if_pos q]
    rfl
   ·left
    rw[decide_eq_false q,zr,z7,if_neg q,vr k _ hk (by omega)]
    refine⟨l.take (k+1),rfl,rfl,?_⟩
    have e:l.take (k+1)=l.take k++[x]:=by
     rw[qZ hk]at hx
     rw[List.take_add_one,List.getElem?_eq_getElem hk,hx]; rfl
    rw[e]
  ·unfold yF
   rw[z8 (xi _),z7]; rfl
 unfold nn
 rw[z6 key]
 cases q:(tT [] l).2 with
 | true=>rfl
 | false=>rw[if_neg (by decide),Sum.elim_inl,z7,K2 l [] q]
def gsF(f:Form):List zf:=f.2.2.1.map (·.2.1)++f.2.2.2.2.1.map (·.2.2.1)
def dA(f:Form)(s:zf):Bool := !zH s [] && !decide (s∈f.1.map (·.1))
def Od(f:Form):Option zf:=(gsF f).findSome? (pick (dA f))
theorem Yz{α:Type}{p:α→Bool}{l:List α}{x:α}(h:l.findSome? (pick p)=some x):x∈l∧p x=true:=by
 induction l with
 | nil=>cases h
 | cons y r ih =>
  rw[List.findSome?_cons]at h
  unfold pick at h
  cases hp:p y with
  | true =>
   rw[hp,if_pos rfl]at h
   have e:y=x:=Option.some.inj h
   exact e▸⟨List.mem_cons_self,hp⟩
  | false =>
   rw[hp,if_neg (by decide)]at h
   have:=ih h
   exact⟨List.mem_cons_of_mem _ this.1,this.2⟩
theorem z5v{f:Form}{x:zf}(h:Od f=some x):zH x []=false:=by
 have:=(Yz h).2
 unfold dA at this
 rw[Bool.and_eq_true,Bool.not_eq_true']at this
 exact this.1
theorem tQ(f:Form)(h:FS f):(yY f).run=some (QG (fun x=>(x,true)) ([],false) (Od f)):=by
 have hn:=h.n
 have k0:∀ s:List zf,s.length≤1000→(ik f f.2.2.1 (f.2.2.1.length:Int) (0,s)).run=some (s++f.2.2.1.map (·.2.1)):=fun s hs=>by
  refine uh (r:=vt f f.2.2.1 (f.2.2.1.length:Int)) f.2.2.1 (zb qu) (·.2.1) s (fun k b x hk hx hm hb => ?_) (fun b => ?_) (by omega)
  ·unfold vt
   dsimp only
   rw[hx,za (qK hk),zc (zm hk),xc _ rfl rfl rfl (by omega),ze _ (by simp) rfl (by simp),zc (by simp),z7,vr k _ hk (by omega)]
  ·unfold vt
   dsimp only
   rw[z8 (xi _),ze _ rfl rfl rfl,T.zk,z7]
 have k1:∀ s:List zf,s.length≤1000→(iC f f.2.2.2.2.1 (f.2.2.2.2.1.length:Int) (0,s)).run=some (s++f.2.2.2.2.1.map (·.2.2.1)):=fun s hs=>by
  refine uh (r:=vD f f.2.2.2.2.1 (f.2.2.2.2.1.length:Int)) f.2.2.2.2.1 (zb zo) (·.2.2.1) s (fun k b x hk hx hm hb => ?_) (fun b => ?_) (by omega)
  ·unfold vD
   dsimp only
   rw[hx,za (qK hk),zc (zm hk),xc _ rfl rfl rfl (by omega),ze _ (by simp) rfl (by simp),zc (by simp),z7,vr k _ hk (by omega)]
  ·unfold vD
   dsimp only
   rw[z8 (xi _),ze _ rfl rfl rfl,T.zk,z7]
 have hix:=XP (gsF f) (fun z0=>wE z0 f) (dA f) (fun s _=>by
  unfold wE dA
  cases zH s []with
  | true=>rfl
  | false =>
   rw[za (by rfl),z6 (Zv f.1 (fun z0=>xV z0 s) (fun x=>zH x.1 s) (fun x _=>rfl) (by omega)),z7,any_map Switch (·.1) s f.1]
   rfl) (by unfold gsF; simp only[List.length_append,List.length_map]; omega)
 unfold yY
 rw[ze _ rfl rfl rfl,T.zk,z6 (k0 _ (by simp)),List.nil_append,ze _ rfl rfl rfl,T.zk,z6 (k1 _ (by rw[List.length_map]; omega)),T.zk]
 simp only[Nat.zero_add,List.take_length,List.drop_zero]
 refine(z6 hix _).trans ?_
 unfold Od
 rcases Ip (dA f) (zb .str) (gsF f)with⟨h1,h2⟩ | ⟨x,k,h1,h2,h3,h4⟩
 ·rw[h1,h2]; rfl
 ·rw[h1,h2,z8 (decide_eq_false (by omega))]
  have h3':(k:Int).toNat<(f.2.2.1.map (·.2.1)++f.2.2.2.2.1.map (·.2.2.1):List zf).length:=by rw[Int.toNat_natCast]; exact h3
  refine(zc (zm h3) _).trans ((zc (nw.2 ⟨rfl,h3'⟩) _).trans ?_)
  exact congrArg some (congrArg (·,true) h4)
theorem VM(f:Form)(h:FS f):(dr f).run=some ((Od f).getD []):=by
 have hn:=h.n
 have k0:(sy f (0,[])).run=some ([]++f.1.map (·.1)):=by
  refine uh (r:=jT f) f.1 (zb zW) (·.1) [] (fun k b x hk hx hm hb => ?_) (fun b => ?_) (by simp only[List.length_nil]; omega)
  ·unfold jT
   dsimp only
   rw[hx,za (qK hk),zc (zm hk),xc _ rfl rfl rfl (by omega),ze _ (by simp) rfl (by simp),zc (by simp),z7,vr k _ hk (by omega)]
  ·unfold jT
   dsimp only
   rw[z8 (xi _),ze _ rfl rfl rfl,T.zk,z7]
 have hg:∀ (N:List zf) (g:zf) (i n:Int) (hN:N.length≤1000000) (hN2:N=f.1.map (·.1)) (P:Prop) (hP:P),
   (.zd P<|.ite (!(zH g ([]:zf))) (.zd P<|.zd ((List.length N)=(List.length N))<|T.bind (yK (List.drop (0:Nat) (List.take ((0:Nat)+(List.length N)) N)) g) fun r=>.zd (zh (List.length N) (0:Nat) (List.length N) (List.length N))<|.zd ((List.length N)=(List.length N))<|.ret ((!r),N))
    (.zd (zh (List.length N) (0:Nat) (List.length N) (List.length N))<|.zd ((List.length N)=(List.length N))<|.ret (false,N)):T (Bool×List zf)).run=some (dA f g,N):=by
  intro N g i n hN hN2 P hP
  subst hN2
  unfold dA
  rw[zc hP]
  cases zH g []with
  | true=>rw[z8 (by rfl),ze _ rfl rfl rfl,T.zk,z7]; rfl
  | false =>
   rw[za (by rfl),zc hP,T.zk]
   simp only[Nat.zero_add,List.take_length,List.drop_zero]
   rw[z6 (hO _ g (by omega)),ze _ rfl rfl rfl,zM,z7]
   rfl
 have k1:(sa f (0,f.1.map (·.1))).run=some (QG (fun z=>.inr (z,f.1.map (·.1))) (.inl (f.1.map (·.1))) (f.2.2.1.findSome? (fun x=>pick (dA f) x.2.1))):=by
  refine ff (r:=kz f) f.2.2.1 (zb qu) (fun x=>pick (dA f) x.2.1) (fun i=>(i,f.1.map (·.1))) (fun z=>.inr (z,f.1.map (·.1))) (.inl (f.1.map (·.1))) (fun k x hk hx hm => ?_) ?_
  ·unfold kz
   dsimp only
   rw[za (qK hk),hx]
   refine(z6 (hg (f.1.map (·.1)) x.2.1 0 0 (by rw[List.length_map]; omega) rfl _ (zm hk)) _).trans ?_
   dsimp only
   unfold pick
   cases dA f x.2.1 with
   | true=>rw[zy,zc (zm hk),T.zk,z7]; rfl
   | false=>rw[zr,ze _ rfl rfl rfl,T.zk,z7,vr k _ hk (by omega)]; rfl
  ·unfold kz
   dsimp only
   rw[z8 (xi _),ze _ rfl rfl rfl,T.zk,z7]
 have k2:(sC f (0,f.1.map (·.1))).run=some (QG (fun z=>.inr (z,f.1.map (·.1))) (.inl (f.1.map (·.1))) (f.2.2.2.2.1.findSome? (fun x=>pick (dA f) x.2.2.1))):=by
  refine ff (r:=kK f) f.2.2.2.2.1 (zb zo) (fun x=>pick (dA f) x.2.2.1) (fun i=>(i,f.1.map (·.1))) (fun z=>.inr (z,f.1.map (·.1))) (.inl (f.1.map (·.1))) (fun k x hk hx hm => ?_) ?_
  ·unfold kK
   dsimp only
   rw[za (qK hk),hx]
   refine(z6 (hg (f.1.map (·.1)) x.2.2.1 0 0 (by rw[List.length_map]; omega) rfl _ (zm hk)) _).trans ?_
   dsimp only
   unfold pick
   cases dA f x.2.2.1 with
   | true=>rw[zy,zc (zm hk),T.zk,z7]; rfl
   | false=>rw[zr,ze _ rfl rfl rfl,T.zk,z7,vr k _ hk (by omega)]; rfl
  ·unfold kK
   dsimp only
   rw[z8 (xi _),T.zk,z7]
 have e:Od f=(f.2.2.1.findSome? (fun x=>pick (dA f) x.2.1)).or (f.2.2.2.2.1.findSome? (fun x=>pick (dA f) x.2.2.1)):=by
  unfold Od gsF
  rw[List.findSome?_append,List.findSome?_map,List.findSome?_map]
  rfl
 unfold dr
 rw[ze _ rfl rfl rfl,T.zk,z6 k0,List.nil_append,ze _ rfl rfl rfl,T.zk,z6 k1,e]
 cases f.2.2.1.findSome? (fun x=>pick (dA f) x.2.1)with
 | some z=>rfl
 | none =>
  show T.run (Sum.elim _ _ (.inl _))=_
  rw[Sum.elim_inl,ze _ rfl rfl rfl,T.zk,z6 k2]
  cases f.2.2.2.2.1.findSome? (fun x=>pick (dA f) x.2.2.1)<;>rfl
mutual
theorem PU:∀ (e:Expr) (acc:List zf),nmE e acc=dd acc (allE e)
 | .mk k n s l,acc=>by
  unfold nmE allE
  rw[LM l,tG]
  congr 1
  by_cases hk:k=2
  ·rw[if_pos hk,tN,Wf]
   by_cases ha:s∈acc
   ·rw[if_pos ha,if_neg]
    rintro⟨-,h⟩
    rw[List.any_eq_false]at h
    exact h s ha (wm s s▸decide_eq_true rfl)
   ·have hf:acc.any (zH s)=false:=List.any_eq_false.2 fun x hx h=>by
     rw[wm]at h
     exact ha (of_decide_eq_true h▸hx)
    rw[if_neg ha,if_pos ⟨hk,hf⟩]
  ·rw[if_neg hk,if_neg (fun h=>hk h.1),Wf]
theorem LM:∀ (l:List Expr) (acc:List zf),nmEs l acc=dd acc (allEs l)
 | [],acc=>rfl
 | e::r,acc=>by
  unfold nmEs allEs
  rw[LM r,PU e,tG]
end
def Yr(f:Form):List Expr:=f.2.2.2.2.2.1.flatMap (fun x=>[x.2.2.2.1,x.2.2.2.2.1])++f.2.2.2.2.1.flatMap (fun x=>[x.2.2.2.1,x.2.2.2.2.1])
def O4(f:Form):List zf:=f.2.2.2.1.map (·.1)++f.2.1.map (·.1)
def Kj(f:Form)(s:zf):Bool := !decide (s∈O4 f)
def nmX(l:List Expr):List zf:=l.flatMap fun e=>nmE e []
def Ov(f:Form):Option zf:=(nmX (Yr f)).findSome? (pick (Kj f))
theorem z6Q{f:Form}(h:FS f):∀ e∈Yr f,dZ e:=by
 intro e he
 unfold Yr at he
 rcases List.mem_append.1 he with he | he<;>obtain⟨x,hx,he⟩:=List.mem_flatMap.1 he
 ·have:=h.c x hx
  rcases List.mem_cons.1 he with rfl | he
  ·exact this.2.1
  ·rw[List.mem_singleton.1 he]; exact this.2.2
 ·have:=h.r x hx
  rcases List.mem_cons.1 he with rfl | he
  ·exact this.2.2.1
  ·rw[List.mem_singleton.1 he]; exact this.2.2.2
theorem k9{α β:Type}(g:α→List β)(C:Nat):∀ (l:List α),(∀ x∈l,(g x).length≤C)→(l.flatMap g).length≤l.length*C
 | [],_=>Nat.zero_le _
 | x::r,h=>by
  have h1:=h x List.mem_cons_self
  have h2:=k9 g C r fun y hy=>h y (List.mem_cons_of_mem _ hy)
  rw[List.flatMap_cons,List.length_append,List.length_cons,Nat.add_mul,Nat.one_mul]
  omega
theorem z0Y{f:Form}(h:FS f):(Yr f).length≤60:=by
 have hn:=h.n
 have h1:=k9 (fun x:Check=>[x.2.2.2.1,x.2.2.2.2.1]) 2 f.2.2.2.2.2.1 fun _ _=>Nat.le_refl _
 have h2:=k9 (fun x:uX=>[x.2.2.2.1,x.2.2.2.2.1]) 2 f.2.2.2.2.1 fun _ _=>Nat.le_refl _
 unfold Yr
 rw[List.length_append]
 exact Nat.le_trans (Nat.add_le_add h1 h2) (by omega)
theorem Q6{e:Expr}(h:dZ e):(nmE e []).length≤2400:=by
 have h1:=Xr e []
 have h2:=jD h
 simp only[List.length_nil,Nat.zero_add]at h1
 exact Nat.le_trans h1 h2
theorem YV{α β γ:Type}(g:α→List β)(q:β→Option γ):∀ l:List α,(l.flatMap g).findSome? q=l.findSome? fun x=>(g x).findSome? q
 | []=>rfl
 | x::r=>by
  rw[List.flatMap_cons,List.findSome?_append,List.findSome?_cons,YV g q r]
  cases(g x).findSome? q<;>rfl
theorem UL(n C:Nat)(m D:Nat)(h:n≤m)(e:m*C≤D):n*C≤D:=Nat.le_trans (Nat.mul_le_mul_right C h) e
theorem QV(f:Form)(h:FS f):(cC f (f.2.2.2.1.map (·.1))).run=some (QG (fun x=>(x,true)) ([],false) (Ov f)):=by
 have hn:=h.n
 have gl:∀ (a b:Expr),dZ a→dZ b→(nmE a []++nmE b []).length≤4800:=fun a b ha hb=>by
  rw[List.length_append]; exact Nat.add_le_add (Q6 ha) (Q6 hb)
 have cc:∀ (b p q:List zf),b.length≤300000→p.length≤2400→q.length≤2400→(w9 [b,p,q]).run=some (b++(p++q)):=fun b p q hb hp hq=>by
  unfold w9
  have e:List.flatten [b,p,q]=b++(p++q):=by simp
  rw[e,zc ⟨by simp only[List.length_cons,List.length_nil]; omega,by rw[List.length_append,List.length_append]; omega,by simp⟩,z7]
 have k0:(mN f (f.2.2.2.1.map (·.1)) f.2.2.2.2.2.1 (f.2.2.2.2.2.1.length:Int) ([],0)).run=some ([]++f.2.2.2.2.2.1.flatMap fun x=>nmE x.2.2.2.1 []++nmE x.2.2.2.2.1 []):=by
  refine my (r:=uG f (f.2.2.2.1.map (·.1)) f.2.2.2.2.2.1 (f.2.2.2.2.2.1.length:Int)) f.2.2.2.2.2.1 (zb zn) 4800 300000 (fun x=>nmE x.2.2.2.1 []++nmE x.2.2.2.2.1 []) (fun b i=>(b,i)) (fun b=>b) [] (fun k b x hk hx hm hb => ?_) (fun b _ => ?_) (fun x hx=>gl _ _ (h.c x hx).2.1 (h.c x hx).2.2) (by rw[List.length_nil,Nat.zero_add]; exact UL _ 4800 30 300000 (by omega) (by decide))
  ·have hc:=h.c x hm
   unfold uG
   dsimp only
   rw[hx,za (qK hk),zc (zm hk),cv,cv,z6 (mn _ (Nat.le_trans (jD hc.2.1) (by decide))),z6 (mn _ (Nat.le_trans (jD hc.2.2) (by decide))),z6 (cc _ _ _ (by omega) (Q6 hc.2.1) (Q6 hc.2.2)),z7,vr k _ hk (by omega)]
  ·unfold uG
   dsimp only
   rw[z8 (xi _),z7]
 have l0:(f.2.2.2.2.2.1.flatMap fun x=>nmE x.2.2.2.1 []++nmE x.2.2.2.2.1 []).length≤144000 :=
  Nat.le_trans (k9 _ 4800 _ fun x hx=>gl _ _ (h.c x hx).2.1 (h.c x hx).2.2) (UL _ 4800 30 144000 (by omega) (by decide))
 have k1:∀ s:List zf,s.length≤144000→(mY f (f.2.2.2.1.map (·.1)) f.2.2.2.2.1 (f.2.2.2.2.1.length:Int) (s,0)).run=some (s++f.2.2.2.2.1.flatMap fun x=>nmE x.2.2.2.1 []++nmE x.2.2.2.2.1 []):=fun s hs=>by
  refine my (r:=uM f (f.2.2.2.1.map (·.1)) f.2.2.2.2.1 (f.2.2.2.2.1.length:Int)) f.2.2.2.2.1 (zb zo) 4800 300000 (fun x=>nmE x.2.2.2.1 []++nmE x.2.2.2.2.1 []) (fun b i=>(b,i)) (fun b=>b) s (fun k b x hk hx hm hb => ?_) (fun b _ => ?_) (fun x hx=>gl _ _ (h.r x hx).2.2.1 (h.r x hx).2.2.2) (Nat.le_trans (Nat.add_le_add hs (UL _ 4800 30 144000 (by omega) (by decide))) (by decide))
  ·have hc:=(h.r x hm).2.2
   unfold uM
   dsimp only
   rw[hx,za (qK hk),zc (zm hk),cv,cv,z6 (mn _ (Nat.le_trans (jD hc.1) (by decide))),z6 (mn _ (Nat.le_trans (jD hc.2) (by decide))),z6 (cc _ _ _ (by omega) (Q6 hc.1) (Q6 hc.2)),z7,vr k _ hk (by omega)]
  ·unfold uM
   dsimp only
   rw[z8 (xi _),z7]
 have l1:(f.2.2.2.2.1.flatMap fun x=>nmE x.2.2.2.1 []++nmE x.2.2.2.2.1 []).length≤144000 :=
  Nat.le_trans (k9 _ 4800 _ fun x hx=>gl _ _ (h.r x hx).2.2.1 (h.r x hx).2.2.2) (UL _ 4800 30 144000 (by omega) (by decide))
 have eN:nmX (Yr f)=(f.2.2.2.2.2.1.flatMap fun x=>nmE x.2.2.2.1 []++nmE x.2.2.2.2.1 [])++f.2.2.2.2.1.flatMap fun x=>nmE x.2.2.2.1 []++nmE x.2.2.2.2.1 []:=by
  unfold nmX Yr
  rw[List.flatMap_append,List.flatMap_assoc,List.flatMap_assoc]
  simp only[List.flatMap_cons,List.flatMap_nil,List.append_nil]
 have hix:=XP (nmX (Yr f)) (fun z0=>vq z0 (f.2.2.2.1.map (·.1)) f) (Kj f) (fun s _=>by
  unfold vq
  rw[z6 (cL _ s (by rw[List.length_map]; omega))]
  have e1:(f.2.2.2.1.map (·.1)).any (zH s)=decide (s∈f.2.2.2.1.map (·.1)):=by
   have:(zH s)=fun x=>zH x s:=by funext x; rw[wm,wm]; exact decide_eq_decide.2 ⟨Eq.symm,Eq.symm⟩
   rw[this,← List.map_id (f.2.2.2.1.map (·.1)),List.any_map,← any_map zf id s]; simp
  rw[e1]
  unfold Kj O4
  by_cases q:s∈f.2.2.2.1.map (·.1)
  ·rw[decide_eq_true q,z8 (by rfl),z7,decide_eq_true (List.mem_append.2 (.inl q))]; rfl
  ·rw[decide_eq_false q,za (by rfl),z6 (XN f.2.1 (fun z0=>wo z0 s) (fun x=>zH x.1 s) (fun x _=>rfl) (by omega)),z7,any_map Param (·.1) s f.2.1]
   have:(s∈f.2.2.2.1.map (·.1)++f.2.1.map (·.1))↔s∈f.2.1.map (·.1):=by rw[List.mem_append]; exact⟨fun z=>z.resolve_left q,.inr⟩
   rw[decide_eq_decide.2 this]) (by rw[eN,List.length_append]; omega)
 unfold cC
 rw[z6 k0,List.nil_append,z6 (k1 _ l0),← eN]
 refine(z6 hix _).trans ?_
 unfold Ov
 rcases Ip (Kj f) (zb .str) (nmX (Yr f))with⟨h1,h2⟩ | ⟨x,k,h1,h2,h3,h4⟩
 ·rw[h1,h2]; rfl
 ·rw[h1,h2,z8 (decide_eq_false (by omega)),zc (zm h3),z7,h4]; rfl
theorem NB(f:Form)(h:FS f):(fX f).run=some (Yr f):=by
 have hn:=h.n
 have k0:(Zh f (0,[])).run=some ([]++f.2.2.2.2.2.1.flatMap fun x=>[x.2.2.2.1,x.2.2.2.2.1]):=by
  refine my (r:=yr f) f.2.2.2.2.2.1 (zb zn) 2 1000 (fun x=>[x.2.2.2.1,x.2.2.2.2.1]) (fun b i=>(i,b)) (fun b=>b) [] (fun k b x hk hx hm hb => ?_) (fun b _ => ?_) (fun _ _=>Nat.le_refl _) (by rw[List.length_nil,Nat.zero_add]; omega)
  ·unfold yr
   dsimp only
   rw[hx,za (qK hk),zc (zm hk),zc (zm hk),xc _ rfl rfl rfl (by omega),ze _ (by simp) rfl (by simp),zc (by simp),z7,vr k _ hk (by omega)]
  ·unfold yr
   dsimp only
   rw[z8 (xi _),ze _ rfl rfl rfl,T.zk,z7]
 have l0:(f.2.2.2.2.2.1.flatMap fun x=>[x.2.2.2.1,x.2.2.2.2.1]).length≤60 :=
  Nat.le_trans (k9 _ 2 _ fun _ _=>Nat.le_refl _) (UL _ 2 30 60 (by omega) (by decide))
 have k1:∀ s:List Expr,s.length≤60→(Zn f (0,s)).run=some (s++f.2.2.2.2.1.flatMap fun x=>[x.2.2.2.1,x.2.2.2.2.1]):=fun s hs=>by
  refine my (r:=yq f) f.2.2.2.2.1 (zb zo) 2 1000 (fun x=>[x.2.2.2.1,x.2.2.2.2.1]) (fun b i=>(i,b)) (fun b=>b) s (fun k b x hk hx hm hb => ?_) (fun b _ => ?_) (fun _ _=>Nat.le_refl _) (by omega)
  ·unfold yq
   dsimp only
   rw[hx,za (qK hk),zc (zm hk),zc (zm hk),xc _ rfl rfl rfl (by omega),ze _ (by simp) rfl (by simp),zc (by simp),z7,vr k _ hk (by omega)]
  ·unfold yq
   dsimp only
   rw[z8 (xi _),ze _ rfl rfl rfl,T.zk,z7]
 unfold fX
 rw[ze _ rfl rfl rfl,T.zk,z6 k0,List.nil_append,ze _ rfl rfl rfl,T.zk,z6 (k1 _ l0),T.zk,z7]
 simp only[Nat.zero_add,List.take_length,List.drop_zero]
 rfl
theorem Wr(f:Form)(h:FS f):(gP (Yr f) (O4 f)).run=some ((Ov f).getD []):=by
 have hn:=h.n
 have hk:(O4 f).length≤1000000000:=by unfold O4; simp only[List.length_append,List.length_map]; omega
 have hl:=z0Y h
 have kin:∀ (i:Int) (n:List zf),n.length≤1000000→(pe (Yr f) (O4 f) i n 0).run=some (QG .inr (.inl ()) (n.findSome? (pick (Kj f)))):=by
  intro i n hn
  refine ff (r:=jf (Yr f) (O4 f) i n) n (zb .str) (pick (Kj f)) (fun i=>i) .inr (.inl ()) (fun k x Ko hx hm => ?_) ?_
  ·unfold jf
   dsimp only
   rw[za (qK Ko),hx,zc (zm Ko),z6 (hO _ x hk)]
   unfold pick Kj
   by_cases q:x∈O4 f
   ·rw[decide_eq_true q,z8 (by rfl),z7,vr k _ Ko (by omega)]; rfl
   ·rw[decide_eq_false q,za (by rfl),zc (zm Ko),z7]; rfl
  ·unfold jf
   rw[z8 (xi _),z7]
 have k0:(oZ (Yr f) (O4 f) 0).run=some (QG .inr (.inl ()) ((Yr f).findSome? fun e=>(nmE e []).findSome? (pick (Kj f)))):=by
  refine ff (r:=j9 (Yr f) (O4 f)) (Yr f) (zb .expr) (fun e=>(nmE e []).findSome? (pick (Kj f))) (fun i=>i) .inr (.inl ()) (fun k x Ko hx hm => ?_) ?_
  ·have DH:=z6Q h x hm
   unfold j9
   dsimp only
   rw[za (qK Ko),hx,zc (zm Ko),z6 (sA _ (Nat.le_trans (jD DH) (by decide))),← PU,z6 (kin _ _ (Nat.le_trans (Q6 DH) (by decide)))]
   cases(nmE x []).findSome? (pick (Kj f))with
   | some z=>rfl
   | none =>
    show T.run (T.ret (Sum.inl (zt ((k:Int)+1))):T (Int⊕(Unit⊕zf)))=_
    rw[z7,vr k _ Ko (by omega)]; rfl
  ·unfold j9
   rw[z8 (xi _),z7]
 unfold gP
 rw[z6 k0]
 unfold Ov nmX
 rw[YV]
 cases(Yr f).findSome? fun e=>(nmE e []).findSome? (pick (Kj f))<;>rfl
theorem dt{α:Type}(l:List α):List.drop 0 (List.take (0+l.length) l)=l:=by simp
theorem BW{s:zf}(h:xY s=true):zH s []=false:=by
 cases s with
 | nil=>cases h
 | cons b r=>rw[wm]; exact decide_eq_false (by simp)
mutual
theorem Gx:∀ (e:Expr) (d:Nat),vf d e=true→∀ x∈allE e,xY x=true
 | .mk k n s l,d,h,x,hx=>by
  unfold vf at h
  rw[Bool.and_eq_true,Bool.and_eq_true]at h
  unfold allE at hx
  rcases List.mem_append.1 hx with hx | hx
  ·by_cases hk:k=2
   ·rw[if_pos hk,List.mem_singleton]at hx
    have FR:=hx
    have h2:=h.2.1
    unfold dq at h2
    rw[Bool.and_eq_true]at h2
    have h3:=h2.2
    subst hk
    rw[FR]
    rw[if_neg (by show ¬ (2:Int)=1; decide),if_pos (by rfl),Bool.and_eq_true]at h3
    exact h3.2
   ·rw[if_neg hk]at hx; cases hx
  ·exact KB l (d+1) h.2.2 x hx
theorem KB:∀ (l:List Expr) (d:Nat),kQ d l=true→∀ x∈allEs l,xY x=true
 | [],d,h,x,hx=>by cases hx
 | e::r,d,h,x,hx=>by
  unfold kQ at h
  rw[Bool.and_eq_true]at h
  unfold allEs at hx
  rcases List.mem_append.1 hx with hx | hx
  ·exact Gx e d h.1 x hx
  ·exact KB r d h.2 x hx
end
theorem U5{α:Type}{p:α→Bool}{l:List α}(h:(!l.any p)=true):∀ x∈l,p x=false:=by
 rw[Bool.not_eq_true',List.any_eq_false]at h
 exact fun x hx=>Bool.not_eq_true _ |>.mp (h x hx)
theorem ZU{f:Form}(h:pH f=true):a1 f=true∧a2 f=true∧a3 f=true∧a4 f=true∧a5 f=true∧a6 f=true:=by
 unfold pH at h
 simp only[Bool.and_eq_true]at h
 exact⟨h.1,h.2.1,h.2.2.1,h.2.2.2.1,h.2.2.2.2.1,h.2.2.2.2.2.1⟩
theorem Gj{f:Form}(h:pH f=true){x:uX}(hx:x∈f.2.2.2.2.1):xY x.1=true∧nU x.2.2.1=true∧0≤x.2.1∧x.2.1≤3∧vf 0 x.2.2.2.1=true∧vf 0 x.2.2.2.2.1=true:=by
 have:=U5 (ZU h).2.2.2.2.2 x hx
 unfold QK at this
 simp only[Bool.or_eq_false_iff,Bool.not_eq_false',decide_eq_false_iff_not]at this
 exact⟨this.1,this.2.1,Int.not_lt.1 this.2.2.1,Int.not_lt.1 this.2.2.2.1,this.2.2.2.2.1,this.2.2.2.2.2⟩
theorem JC{f:Form}(h:pH f=true){x:Check}(hx:x∈f.2.2.2.2.2.1):xY x.1=true∧vf 0 x.2.2.2.1=true∧vf 0 x.2.2.2.2.1=true:=by
 obtain⟨b,this⟩:=nf (ZU h).2.2.2.2.1 x hx
 unfold VL at this
 simp only[Bool.or_eq_false_iff,Bool.not_eq_false']at this
 exact⟨this.2.2.1,this.2.2.2.2.2.1,this.2.2.2.2.2.2⟩
theorem Qa{f:Form}(h:pH f=true):∀ s∈tS f,xY s=true:=by
 have hp:=ZU h
 intro s hs
 unfold tS at hs
 simp only[List.mem_append,List.mem_map,or_assoc]at hs
 rcases hs with⟨x,hx,rfl⟩ | ⟨x,hx,rfl⟩ | ⟨x,hx,rfl⟩ | ⟨x,hx,rfl⟩ | ⟨x,hx,rfl⟩ | ⟨x,hx,rfl⟩
 ·have:=U5 hp.1 x hx
  unfold KD at this
  rwa [Bool.not_eq_false']at this
 ·have:=U5 hp.2.1 x hx
  unfold fE at this
  simp only[Bool.or_eq_false_iff,Bool.not_eq_false']at this
  exact this.1
 ·have:=U5 hp.2.2.1 x hx
  unfold K1 at this
  simp only[Bool.or_eq_false_iff,Bool.not_eq_false']at this
  exact this.1
 ·obtain⟨b,this⟩:=nf hp.2.2.2.1 x hx
  unfold VJ at this
  simp only[Bool.or_eq_false_iff,Bool.not_eq_false']at this
  exact this.2.2.1
 ·exact(Gj h hx).1
 ·exact(JC h hx).1
theorem z2O{f:Form}(h:pH f=true):∀ e∈Yr f,vf 0 e=true:=by
 intro e he
 unfold Yr at he
 rcases List.mem_append.1 he with he | he<;>obtain⟨x,hx,he⟩:=List.mem_flatMap.1 he
 ·have:=JC h hx
  rcases List.mem_cons.1 he with rfl | he
  ·exact this.2.1
  ·rw[List.mem_singleton.1 he]; exact this.2.2
 ·have:=Gj h hx
  rcases List.mem_cons.1 he with rfl | he
  ·exact this.2.2.2.2.1
  ·rw[List.mem_singleton.1 he]; exact this.2.2.2.2.2
theorem z4M{f:Form}(h:pH f=true){s:zf}(hs:Ov f=some s):xY s=true:=by
 have:=(Yz hs).1
 unfold nmX at this
 obtain⟨e,he,hm⟩:=List.mem_flatMap.1 this
 rcases(GO e [] s).1 hm with q | q
 ·cases q
 ·exact Gx e 0 (z2O h e he) s q
def J6(f:Form)(x:uX):Option zf:=if(!da (f.2.2.2.1.map (·.1)) x.2.2.2.1 || !da (f.2.2.2.1.map (·.1)) x.2.2.2.2.1)=true then some x.1 else none
def lnF(f:Form):Option zf:=f.2.2.2.2.1.findSome? (J6 f)
def DJ(f:Form):Int×zf :=
 if pH f=true then
  if(tT [] (tS f)).2=true then(5,(tT [] (tS f)).1)
  else QG (fun n=>((5:Int),n)) (QG (fun n=>(5,n)) (QG (fun n=>(6,n)) (0,[]) (lnF f)) (Ov f)) (Od f)
 else(2,[])
theorem Sd{f:Form}(h:FS f):(f.2.2.2.1.map (·.1)).length≤30:=by
 have:=h.n
 rw[List.length_map]; omega
theorem FJ(f:Form)(h:FS f):(eH f).run=some (DJ f):=by
 have hn:=h.n
 have k0:(oX f f.2.2.2.1 (f.2.2.2.1.length:Int) (0,[])).run=some ([]++f.2.2.2.1.map (·.1)):=by
  refine uh (r:=jk f f.2.2.2.1 (f.2.2.2.1.length:Int)) f.2.2.2.1 (zb q7) (·.1) [] (fun k b x hk hx hm hb => ?_) (fun b => ?_) (by simp only[List.length_nil]; omega)
  ·unfold jk
   dsimp only
   rw[hx,za (qK hk),zc (zm hk),xc _ rfl rfl rfl (by omega),ze _ (by simp) rfl (by simp),zc (by simp),z7,vr k _ hk (by omega)]
  ·unfold jk
   dsimp only
   rw[z8 (xi _),ze _ rfl rfl rfl,T.zk,z7]
 have hF:=Sd h
 have k1:(p7 f.2.2.2.2.1 (f.2.2.2.2.1.length:Int) (0,f.2.2.2.1.map (·.1))).run=some (QG (fun n=>.inr (6,(n,f.2.2.2.1.map (·.1)))) (.inl (f.2.2.2.1.map (·.1))) (lnF f)):=by
  refine ff (r:=ja f.2.2.2.2.1 (f.2.2.2.2.1.length:Int)) f.2.2.2.2.1 (zb zo) (J6 f) (fun i=>(i,f.2.2.2.1.map (·.1))) _ _ (fun k x hk hx hm => ?_) ?_
  ·have hc:=(h.r x hm).2.2
   unfold ja J6
   dsimp only
   rw[hx,za (qK hk),zc (zm hk),cv,cv,dt]
   have l1:=JR x.2.2.2.1 (f.2.2.2.1.map (·.1)) (Nat.le_trans (jD hc.1) (by decide)) (by omega)
   have l2:=JR x.2.2.2.2.1 (f.2.2.2.1.map (·.1)) (Nat.le_trans (jD hc.2) (by decide)) (by omega)
   cases hl:da (f.2.2.2.1.map (·.1)) x.2.2.2.1 with
   | false =>
    rw[hl]at l1
    refine(z6 (a:=(true,(f.2.2.2.1.map (·.1),x))) ?_ _).trans ?_
    ·rw[T.zk,z6 l1,za (by rfl),ze _ rfl rfl rfl,T.zk,z7]
    ·dsimp only
     rw[zy,T.zk,z7]; rfl
   | true =>
    rw[hl]at l1
    refine(z6 (a:=(!da (f.2.2.2.1.map (·.1)) x.2.2.2.2.1,(f.2.2.2.1.map (·.1),x))) ?_ _).trans ?_
    ·rw[T.zk,z6 l1,z8 (by rfl),T.zk,z6 l2,ze _ rfl rfl rfl,T.zk,z7]
    ·dsimp only
     cases da (f.2.2.2.1.map (·.1)) x.2.2.2.2.1 with
     | false=>rw[Bool.not_false,zy,T.zk,z7]; rfl
     | true=>rw[Bool.not_true,zr,ze _ rfl rfl rfl,T.zk,z7,vr k _ hk (by omega)]; rfl
  ·unfold ja
   dsimp only
   rw[z8 (xi _),T.zk,z7]
 unfold eH DJ
 rw[z6 (HK f h)]
 cases hI:pH f with
 | false=>rw[za (by rfl),z7]; rfl
 | true =>
  have LL:=Qa hI
  have h64:(decide ((64:Int)<(f.2.2.2.1.length:Int))||decide ((64:Int)<(f.2.2.2.2.1.length:Int)))=false:=by
   rw[decide_eq_false (by omega),decide_eq_false (by omega)]; rfl
  have Tc:(tS f).length≤1000000:=by unfold tS; simp only[List.length_append,List.length_map]; omega
  rw[z8 (by rfl),z8 h64,z6 (VU f h),z6 (VS _ Tc (fun s hs=>by
   have:=LL s hs
   cases s with
   | nil=>exact Nat.zero_le _
   | cons b r =>
    unfold xY at this
    rw[Bool.and_eq_true,decide_eq_true_eq]at this
    omega)),if_pos rfl]
  cases ht:(tT [] (tS f)).2 with
  | true=>rw[if_pos rfl]; dsimp only; rw[ht,zy,z7]
  | false =>
   rw[if_neg (by decide)]
   dsimp only
   rw[ht,zr,z6 (tQ f h)]
   cases Od f with
   | some n=>rfl
   | none =>
    show T.run (T.ite false _ _)=_
    rw[zr,ze _ rfl rfl rfl,T.zk,z6 k0,List.nil_append,T.zk,dt,z6 (QV f h)]
    cases Ov f with
    | some n=>rfl
    | none =>
     show T.run (T.ite false _ _)=_
     rw[zr,ze _ rfl rfl rfl,T.zk,z6 k1]
     cases lnF f<;>rfl
theorem VQ(f:Form)(h:FS f):(lI f).run=some (DJ f):=by
 have hn:=h.n
 have hF:=Sd h
 have k0:(fB f (f.2.2.2.1.map (·.1)) (0,f.2.2.2.1.map (·.1))).run=some (O4 f):=by
  refine uh (r:=jQ f (f.2.2.2.1.map (·.1))) f.2.1 (zb zX) (·.1) _ (fun k b x hk hx hm hb => ?_) (fun b => ?_) (by omega)
  ·unfold jQ
   dsimp only
   rw[hx,za (qK hk),zc (zm hk),xc _ rfl rfl rfl (by omega),ze _ (by simp) rfl (by simp),zc (by simp),z7,vr k _ hk (by omega)]
  ·unfold jQ
   dsimp only
   rw[z8 (xi _),ze _ rfl rfl rfl,T.zk,z7]
 have k1:(sK f (f.2.2.2.1.map (·.1)) 0).run=some (QG (fun n=>.inr (6,n)) (.inl ()) (lnF f)):=by
  refine ff (r:=jU f (f.2.2.2.1.map (·.1))) f.2.2.2.2.1 (zb zo) (J6 f) (fun i=>i) _ _ (fun k x hk hx hm => ?_) ?_
  ·have hc:=(h.r x hm).2.2
   unfold jU J6
   dsimp only
   rw[hx,za (qK hk)]
   have l1:=pz x.2.2.2.1 (f.2.2.2.1.map (·.1)) (Nat.le_trans (jD hc.1) (by decide)) (by omega)
   have l2:=pz x.2.2.2.2.1 (f.2.2.2.1.map (·.1)) (Nat.le_trans (jD hc.2) (by decide)) (by omega)
   cases hl:da (f.2.2.2.1.map (·.1)) x.2.2.2.1 with
   | false =>
    rw[hl]at l1
    refine(z6 (a:=true) ?_ _).trans ?_
    ·rw[zc (zm hk),z6 l1,za (by rfl),z7]
    ·rw[zy,zc (zm hk),z7]; rfl
   | true =>
    rw[hl]at l1
    refine(z6 (a := !da (f.2.2.2.1.map (·.1)) x.2.2.2.2.1) ?_ _).trans ?_
    ·rw[zc (zm hk),z6 l1,z8 (by rfl),zc (zm hk),z6 l2,z7]
    ·cases da (f.2.2.2.1.map (·.1)) x.2.2.2.2.1 with
     | false=>rw[Bool.not_false,zy,zc (zm hk),z7]; rfl
     | true=>rw[Bool.not_true,zr,z7,vr k _ hk (by omega)]; rfl
  ·unfold jU
   rw[z8 (xi _),z7]
 have kl:(O4 f).length≤1000:=by unfold O4; simp only[List.length_append,List.length_map]; omega
 unfold lI DJ
 rw[z6 (BQ f h)]
 cases hI:pH f with
 | false=>rw[za (by rfl),z7]; rfl
 | true =>
  have LL:=Qa hI
  have h64:(decide ((64:Int)<(f.2.2.2.1.length:Int))||decide ((64:Int)<(f.2.2.2.2.1.length:Int)))=false:=by
   rw[decide_eq_false (by omega),decide_eq_false (by omega)]; rfl
  have Tc:(tS f).length≤1000000:=by unfold tS; simp only[List.length_append,List.length_map]; omega
  have mid:∀ s:zf,zH s []=true→(.ite (zH s ([]:zf))
        (.zd (xC (0:Nat) (0:Nat) (0:Nat) (0:Nat) (0:Nat) (List.length (f.2.2.2.1.map (·.1))) (16:Nat)) <|
         .zd (zh ((0:Nat)+(List.length (f.2.2.2.1.map (·.1)))) (0:Nat) ((0:Nat)+(List.length (f.2.2.2.1.map (·.1)))) (List.length (f.2.2.2.1.map (·.1)))) <|
         .zd (((0:Nat)+(List.length (f.2.2.2.1.map (·.1))))=(List.length (f.2.2.2.1.map (·.1)))) <|
         T.bind (fB f (f.2.2.2.1.map (·.1)) ((0:Int),(f.2.2.2.1.map (·.1)))) fun zA =>
         T.bind (fX f) fun r2 =>
         .zd ((List.length zA)=(List.length zA)) <|
         T.bind (gP r2 (List.drop (0:Nat) (List.take ((0:Nat)+(List.length zA)) zA))) fun s3 =>
         .ret s3)
        (.ret s):T (zf)).run=some ((Ov f).getD []):=fun s hs=>by
   rw[za hs,xc _ rfl rfl rfl (by omega),ze _ (by omega) rfl (by omega),zc (by omega),z6 k0,z6 (NB f h),T.zk,dt,z6 (Wr f h),z7]
  have z7t:∀ s:zf,zH s []=false→∀ t:T zf,(.ite (zH s ([]:zf)) t (.ret s):T (zf)).run=some s:=fun s hs t=>by
   rw[z8 hs,z7]
  have fin:∀ s:zf,zH s []=false→∀ t:T (Int×zf),(.ite (!(zH s ([]:zf))) (.ret ((5:Int),s)) t:T (Int×zf)).run=some (5,s):=fun s hs t=>by
   rw[hs,za (by rfl),z7]
  rw[z8 (by rfl),z8 h64,z6 (KJ f h),z6 (JW _ Tc),if_pos rfl]
  cases ht:(tT [] (tS f)).2 with
  | true =>
   have hs:=BW (LL _ (Mg _ _ ht))
   rw[if_pos rfl,z6 (z7t _ hs _),z6 (ny f h),z6 (z7t _ hs _),fin _ hs]
  | false =>
   rw[if_neg (by decide),K2 _ _ ht]
   have e1:(.ite (zH ([]:zf) ([]:zf)) (T.bind (dr f) fun s1=>.ret s1) (.ret []):T zf).run=some ((Od f).getD []):=by
    rw[za (by rfl),z6 (VM f h),z7]
   rw[z6 e1,z6 (ny f h)]
   cases hg:Od f with
   | some n =>
    have hs:=z5v hg
    exact(z6 (z7t n hs _) _).trans (fin n hs _)
   | none =>
    refine(z6 (mid [] rfl) _).trans ?_
    cases hk:Ov f with
    | some n=>exact fin _ (BW (z4M hI hk)) _
    | none =>
     show T.run (T.ite (!zH [] []) _ _)=_
     rw[z8 (by rfl),z6 k1]
     cases lnF f<;>rfl
theorem z79{f:Form}(h:(DJ f).1=0):pH f=true∧(tT [] (tS f)).2=false∧Od f=none∧Ov f=none∧lnF f=none:=by
 unfold DJ at h
 cases hI:pH f with
 | false=>rw[hI,if_neg (by decide)]at h; cases h
 | true =>
  rw[hI,if_pos rfl]at h
  cases ht:(tT [] (tS f)).2 with
  | true=>rw[ht,if_pos rfl]at h; cases h
  | false =>
   rw[ht,if_neg (by decide)]at h
   cases hg:Od f with
   | some n=>rw[hg]at h; cases h
   | none =>
    rw[hg]at h
    cases hk:Ov f with
    | some n=>rw[hk]at h; cases h
    | none =>
     rw[hk]at h
     cases hl:lnF f with
     | some n=>rw[hl]at h; cases h
     | none=>exact⟨rfl,rfl,rfl,rfl,rfl⟩
theorem HO(l:List Switch)(g:Switch→T Bool)(p:Switch→Bool)(hg:∀ x∈l,(g x).run=some (p x))(hl:l.length≤1000000000):(qm l g).run=some (PL.vL p 0 l):=by
 have key:(wS l g (l.length:Int) 0).run=some (if PL.vL p 0 l = -1 then .inl ()else .inr (PL.vL p 0 l)):=by
  refine PL.yS l (zb zW) p (fun i h hi hp => ?_) (fun i h hi hp => ?_) (fun i hi => ?_)
  ·have hm:=vk (d:=zb zW) h hi
   simp(disch:=omega) [qe,hi,hg _ hm,hp]
  ·have hm:=vk (d:=zb zW) h hi
   simp(disch:=omega) [qe,hi,hg _ hm,hp]
  ·simp[qe,hi]
 unfold qm
 rw[z6 key]
 split<;>rename_i h<;>simp[h]
def Pk(sw:List Switch)(w:zf):Int:=PL.vL (fun s=>zH s.1 w) 0 sw
def Oe(sw:List Switch)(on:List Bool)(w:zf):Bool:=if 0≤Pk sw w then nth on (Pk sw w) false else zH w []
theorem Lh(sw:List Switch)(w:zf):Pk sw w = -1∨(0≤Pk sw w∧Pk sw w<sw.length):=DO _ sw
theorem CR{α:Type}(p:α→Bool):∀ (l:List α) (i:Int),(∀ x∈l,p x=false)→PL.vL p i l = -1
 | [],_,_=>rfl
 | x::r,i,h=>by
  rw[Qs,if_neg (by rw[h x List.mem_cons_self]; simp)]
  exact CR p r (i+1) fun y hy=>h y (List.mem_cons_of_mem _ hy)
theorem OS(f:Form)(on:List Bool)(w:zf)(hl:f.1.length≤1000000000)(ho:on.length=f.1.length)(hn:∀ s∈f.1,s.1≠[]):(tm f on w).run=some (Oe f.1 on w):=by
 have hi:=HO f.1 (fun z0=>kM z0 w) (fun s=>zH s.1 w) (fun x _=>rfl) hl
 have hi:(qm f.1 (fun z0=>kM z0 w)).run=some (Pk f.1 w):=hi
 have hr:=Lh f.1 w
 unfold tm Oe
 rw[z6 hi,zc (fun _ h=>by
  have:=of_decide_eq_true h
  exact⟨this,by omega⟩),z7]
 congr 1
 by_cases c:0≤Pk f.1 w
 ·have hw:zH w []=false:=by
   rw[wm]
   refine decide_eq_false ?_
   rintro rfl
   have:Pk f.1 [] = -1:=CR _ _ _ fun s hs=>by rw[wm]; exact decide_eq_false (hn s hs)
   omega
  rw[if_pos c,hw,decide_eq_true c,Bool.false_or,Bool.true_and]
  rfl
 ·rw[if_neg c,decide_eq_false c,Bool.false_and,Bool.or_false]
theorem z5L(f:Form)(on:List Bool)(w:zf)(hl:f.1.length≤1000000000)(ho:on.length=f.1.length):(Uk f on w).run=some (Oe f.1 on w):=by
 have key:∀ (m k:Nat),k+m=f.1.length→(ZX on w f (k:Int)).run=some (if PL.vL (fun s:Switch=>zH s.1 w) (k:Int) (f.1.drop k) = -1 then .inl ()else .inr (nth on (PL.vL (fun s:Switch=>zH s.1 w) (k:Int) (f.1.drop k)) false)):=by
  intro m
  induction m with
  | zero =>
   intro k hk
   have:k=f.1.length:=by omega
   subst this
   rw[List.drop_length]
   refine qf ?_
   unfold il
   dsimp only
   rw[z8 (xi _),z7]
   rfl
  | succ m ih =>
   intro k hk
   have h1:k<f.1.length:=by omega
   rw[List.drop_eq_getElem_cons h1,Qs]
   by_cases c:zH f.1[k].1 w=true
   ·rw[if_pos c,if_neg (by omega)]
    refine qf ?_
    unfold il
    dsimp only
    rw[za (qK h1),zc (zm h1),qZ h1,za c,zc (fun _=>zm (by omega)),z7,qK (show k<on.length by omega),Bool.true_and]
    rfl
   ·rw[if_neg c]
    refine(qC (s':=((k+1:Nat):Int)) ?_).trans (ih (k+1) (by omega))
    unfold il
    dsimp only
    rw[za (qK h1),zc (zm h1),qZ h1,z8 (by simpa using c),z7,vr k _ h1 (by omega)]
 have hk:=key f.1.length 0 (by omega)
 rw[List.drop_zero]at hk
 have hk:(ZX on w f (0:Int)).run=some (if Pk f.1 w = -1 then .inl ()else .inr (nth on (Pk f.1 w) false)):=hk
 have hr:=Lh f.1 w
 unfold Uk Oe
 rw[z6 hk]
 by_cases c:Pk f.1 w = -1
 ·rw[if_pos c,if_neg (by omega)]; rfl
 ·rw[if_neg c,if_pos (by omega)]; rfl
def tR(q:Q):Bool:=wW (xj q)
def U4(c:AC):Bool:=tR c.2||c.1.any fun t=>tR t.2
theorem BN(l:List Term)(g:Term→T Bool)(p:Term→Bool)(hg:∀ x∈l,(g x).run=some (p x))(hl:l.length≤1000000000):(xb l g).run=some (l.any p):=by
 have key:(jI l g (l.length:Int) 0).run=some (if PL.vL p 0 l = -1 then .inl ()else .inr (PL.vL p 0 l)):=by
  refine PL.yS l (zb zp) p (fun i h hi hp => ?_) (fun i h hi hp => ?_) (fun i hi => ?_)
  ·have hm:=vk (d:=zb zp) h hi
   simp(disch:=omega) [xx,hi,hg _ hm,hp]
  ·have hm:=vk (d:=zb zp) h hi
   simp(disch:=omega) [xx,hi,hg _ hm,hp]
  ·simp[xx,hi]
 have hx:(wJ l g).run=some (PL.vL p 0 l):=by
  unfold wJ
  rw[z6 key]
  split<;>rename_i h<;>simp[h]
 unfold xb
 rw[z6 hx,z7,PL.eO _ _ _ (Int.le_refl 0)]
theorem E4(s:Int)(c:AC)(hc:VT 1000000 c)(hl:c.1.length≤1000000):(oh (qO s c)).run=some (U4 c):=by
 have hk:=yw (xj c.2) (xR (qT (by have:=hc.1; omega:xw c.2≤1000000)) (by omega))
 have ht:(xb (c.1.map qs) (fun z0=>vo z0)).run=some ((c.1.map qs).any fun t=>wW t.2.1):=by
  refine BN _ _ _ (fun x hx => ?_) (by rw[List.length_map]; omega)
  obtain⟨t,ht,rfl⟩:=List.mem_map.1 hx
  have:=yw (xj t.2) (xR (qT (by have:=hc.2 t ht; omega:xw t.2≤1000000)) (by omega))
  unfold vo
  show(T.bind (uS (xj t.2)) _).run=_
  rw[z6 this,z7]
  rfl
 unfold oh U4
 show(T.bind (uS (xj c.2)) _).run=_
 rw[z6 hk]
 cases h:wW (xj c.2)with
 | true=>rw[zy,z7]; unfold tR; rw[h]; rfl
 | false =>
  rw[zr]
  show(T.bind (xb (c.1.map qs) (fun z0=>vo z0)) _).run=_
  rw[z6 ht,z7,List.any_map]
  unfold tR
  rw[h]
  rfl
theorem JZ(s:Int)(c:AC)(hc:VT 1000000 c)(hl:c.1.length≤1000000):(oz (qO s c)).run=some (U4 c):=by
 have hK:=fy (xj c.2) (xR (qT (by have:=hc.1; omega:xw c.2≤1000000)) (by omega))
 have key:∀ (m k:Nat),k+m=c.1.length→(lQ (qO s c) (k:Int)).run=some (if(c.1.drop k).any (fun t=>tR t.2)=true then .inr true else .inl ()):=by
  intro m
  induction m with
  | zero =>
   intro k hk
   have:k=c.1.length:=by omega
   subst this
   rw[List.drop_length]
   refine qf ?_
   unfold yp
   dsimp only
   rw[show(qO s c).2.1=c.1.map qs from rfl,List.length_map,z8 (xi _),z7]
   rfl
  | succ m ih =>
   intro k hk
   have h1:k<c.1.length:=by omega
   have mh:k<(c.1.map qs).length:=by rw[List.length_map]; exact h1
   have hq:=hc.2 _ (List.getElem_mem h1)
   have hL:=fy (xj c.1[k].2) (xR (qT hq) (by omega))
   rw[List.drop_eq_getElem_cons h1,List.any_cons]
   have st:(yp (qO s c) (k:Int)).run=some (if tR c.1[k].2=true then .inr (.inr true)else .inl ((k+1:Nat):Int)):=by
    unfold yp
    dsimp only
    rw[show(qO s c).2.1=c.1.map qs from rfl,za (by rw[List.length_map]; exact qK h1),zc (zm mh),qZ mh,List.getElem_map]
    show(T.bind (kg (xj c.1[k].2)) _).run=_
    rw[z6 hL]
    unfold tR
    cases wW (xj c.1[k].2)with
    | true=>rfl
    | false=>rw[zr,z7,vr k _ h1 (by omega)]; rfl
   cases q:tR c.1[k].2 with
   | true =>
    rw[q,if_pos rfl]at st
    rw[Bool.true_or,if_pos rfl]
    exact qf st
   | false =>
    rw[q,if_neg (by simp)]at st
    rw[Bool.false_or]
    exact(qC st).trans (ih (k+1) (by omega))
 have hk:=key c.1.length 0 (by omega)
 rw[List.drop_zero]at hk
 have hk:(lQ (qO s c) (0:Int)).run=_:=hk
 unfold oz U4
 rw[z6 hk]
 cases q:c.1.any fun t=>tR t.2 with
 | true=>rw[if_pos rfl,Bool.or_true]; rfl
 | false =>
  rw[if_neg (by simp),Sum.elim_inl,Bool.or_false]
  show(T.bind (kg (xj c.2)) _).run=_
  rw[z6 hK,z7]
  rfl
inductive EL where
 | er (name:zf) (e:Int)
 | ok (l:List (AC×Int×Int))
def KQ(v:zK)(sw:List Switch)(on:List Bool):Nat→List uX→List (AC×Int×Int)→EL
 | _,[],acc=>.ok acc
 | k,r::rs,acc=>if Oe sw on r.2.2.1=true then
   (if(kL v r.2.2.2.1 r.2.2.2.2.1).2≠0 then .er r.1 (kL v r.2.2.2.1 r.2.2.2.2.1).2 else KQ v sw on (k+1) rs (acc++[((kL v r.2.2.2.1 r.2.2.2.2.1).1,(r.2.1,(k:Int)))]))
  else KQ v sw on (k+1) rs acc
def ue(l:List (AC×Int×Int)):List wg:=l.map fun x=>qO x.2.1 x.1
def um(l:List (AC×Int×Int)):List Int:=l.map fun x=>x.2.2
structure z56(r:uX):Prop where
 a1:allOk r.2.2.2.1
 a2:allOk r.2.2.2.2.1
 n1:wv r.2.2.2.1≤100000
 n2:wv r.2.2.2.2.1≤100000
 b1:bkE r.2.2.2.1≤1000000000
 b2:bkE r.2.2.2.2.1≤1000000000
theorem sF(l:List (AC×Int×Int)):(ue l).length=l.length:=List.length_map ..
theorem rN(l:List (AC×Int×Int)):(um l).length=l.length:=List.length_map ..
theorem G5(l:List (AC×Int×Int))(c:AC)(s k:Int):ue (l++[(c,(s,k))])=ue l++[qO s c]:=by unfold ue; rw[List.map_append]; rfl
theorem Gp(l:List (AC×Int×Int))(c:AC)(s k:Int):um (l++[(c,(s,k))])=um l++[k]:=by unfold um; rw[List.map_append]; rfl
theorem OH(f:Form)(on:List Bool)(v:zK)(hv:gI v)(hl:f.1.length≤1000000000)(ho:on.length=f.1.length)(hn:∀ s∈f.1,s.1≠[])(hr:∀ r∈f.2.2.2.2.1,z56 r)(hrl:f.2.2.2.2.1.length≤1000000)(a0:qM) :
  ∀ (m k:Nat) (acc:List (AC×Int×Int)),k+m=f.2.2.2.2.1.length→acc.length≤k →
   match KQ v f.1 on k (f.2.2.2.2.1.drop k) acc with
   | .ok l=>(kU on f f.2.2.2.2.1 (f.2.2.2.2.1.length:Int) ((k:Int),(a0,((),(v,(ue acc,um acc)))))).run=some (.inl (a0,((),(v,(ue l,um l)))))
   | .er nm e=>e≠0∧∃ z,(kU on f f.2.2.2.2.1 (f.2.2.2.2.1.length:Int) ((k:Int),(a0,((),(v,(ue acc,um acc)))))).run=some (.inr (nm,(e,((([]:List wg),(([]:List Int),())),z)))):=by
 intro m
 induction m with
 | zero =>
  intro k acc hk ha
  have:k=f.2.2.2.2.1.length:=by omega
  subst this
  rw[List.drop_length]
  show(kU on f f.2.2.2.2.1 (f.2.2.2.2.1.length:Int) _).run=_
  refine qf ?_
  unfold ui
  dsimp only
  rw[z8 (xi _),ze _ rfl rfl rfl,ze _ rfl rfl rfl,zx _ rfl,zx _ rfl,z7]
 | succ m ih =>
  intro k acc hk ha
  have h1:k<f.2.2.2.2.1.length:=by omega
  have RS:=hr _ (List.getElem_mem h1)
  have N4:=OS f on f.2.2.2.2.1[k].2.2.1 hl ho hn
  have hsd:=EI hv f.2.2.2.2.1[k] RS.a1 RS.a2 RS.n1 RS.n2
  have cl:=sF acc
  have rl:=rN acc
  rw[List.drop_eq_getElem_cons h1]
  unfold KQ
  by_cases c:Oe f.1 on f.2.2.2.2.1[k].2.2.1=true
  ·rw[if_pos c]
   by_cases e:(kL v f.2.2.2.2.1[k].2.2.2.1 f.2.2.2.2.1[k].2.2.2.2.1).2≠0
   ·rw[if_pos e]
    refine⟨e,((),(v,(ue acc,um acc))),?_⟩
    refine qf ?_
    unfold ui
    dsimp only
    rw[za (qK h1),zc (zm h1),qZ h1,z6 N4,z8 (by rw[c]; rfl),z6 hsd]
    generalize kL v f.2.2.2.2.1[k].2.2.2.1 f.2.2.2.2.1[k].2.2.2.2.1=S at e ⊢
    obtain⟨S1,S2⟩:=S
    rw[mH e]
    dsimp only at e ⊢
    rw[za (by simpa using e),ze _ rfl rfl rfl,ze _ rfl rfl rfl,zx _ rfl,zx _ rfl,z7]
   ·rw[if_neg e]
    have HC:=ih (k+1) (acc++[((kL v f.2.2.2.2.1[k].2.2.2.1 f.2.2.2.2.1[k].2.2.2.2.1).1,(f.2.2.2.2.1[k].2.1,(k:Int)))]) (by omega) (by rw[List.length_append,List.length_singleton]; omega)
    have st:(ui on f f.2.2.2.2.1 (f.2.2.2.2.1.length:Int) ((k:Int),(a0,((),(v,(ue acc,um acc)))))).run=some (.inl (((k+1:Nat):Int),(a0,((),(v,(ue (acc++[((kL v f.2.2.2.2.1[k].2.2.2.1 f.2.2.2.2.1[k].2.2.2.2.1).1,(f.2.2.2.2.1[k].2.1,(k:Int)))]),um (acc++[((kL v f.2.2.2.2.1[k].2.2.2.1 f.2.2.2.2.1[k].2.2.2.2.1).1,(f.2.2.2.2.1[k].2.1,(k:Int)))]))))))):=by
     rw[G5,Gp]
     unfold ui
     dsimp only
     rw[za (qK h1),zc (zm h1),qZ h1,z6 N4,z8 (by rw[c]; rfl),z6 hsd]
     generalize kL v f.2.2.2.2.1[k].2.2.2.1 f.2.2.2.2.1[k].2.2.2.2.1=S at e ⊢
     obtain⟨S1,S2⟩:=S
     have:S2=0:=by simpa using e
     subst this
     rw[Uv]
     dsimp only
     rw[z8 (by rfl),xc _ rfl rfl rfl (by omega),xc _ rfl rfl rfl (by omega),ze _ (by simp) rfl (by simp),ze _ (by simp) rfl (by simp),zx _ (by simp),zx _ (by simp),z7,vr k _ h1 (by omega)]
    cases w:KQ v f.1 on (k+1) (f.2.2.2.2.1.drop (k+1)) (acc++[((kL v f.2.2.2.2.1[k].2.2.2.1 f.2.2.2.2.1[k].2.2.2.2.1).1,(f.2.2.2.2.1[k].2.1,(k:Int)))])with
    | ok l=>rw[w]at HC; exact(qC st).trans HC
    | er nm x=>rw[w]at HC; obtain⟨g1,z,g2⟩:=HC; exact⟨g1,z,(qC st).trans g2⟩
  ·rw[if_neg c]
   have HC:=ih (k+1) acc (by omega) (by omega)
   have st:(ui on f f.2.2.2.2.1 (f.2.2.2.2.1.length:Int) ((k:Int),(a0,((),(v,(ue acc,um acc)))))).run=some (.inl (((k+1:Nat):Int),(a0,((),(v,(ue acc,um acc)))))):=by
    unfold ui
    dsimp only
    rw[za (qK h1),zc (zm h1),qZ h1,z6 N4,za (by rw[show Oe f.1 on f.2.2.2.2.1[k].2.2.1=false by simpa using c]; rfl),ze _ rfl rfl rfl,ze _ rfl rfl rfl,zx _ rfl,zx _ rfl,z7,vr k _ h1 (by omega)]
   cases w:KQ v f.1 on (k+1) (f.2.2.2.2.1.drop (k+1)) acc with
   | ok l=>rw[w]at HC; exact(qC st).trans HC
   | er nm x=>rw[w]at HC; obtain⟨g1,z,g2⟩:=HC; exact⟨g1,z,(qC st).trans g2⟩
theorem EK(v:zK)(sw:List Switch)(on:List Bool):∀ (rs:List uX) (k:Nat) (acc l:List (AC×Int×Int)),KQ v sw on k rs acc=.ok l →
  ∃ l',l=acc++l'∧(∀ x∈l',∃ j,∃ h:j<rs.length,x=((kL v rs[j].2.2.2.1 rs[j].2.2.2.2.1).1,(rs[j].2.1,((k+j:Nat):Int)))∧(kL v rs[j].2.2.2.1 rs[j].2.2.2.2.1).2=0∧Oe sw on rs[j].2.2.1=true) ∧
   ∀ j,∀ h:j<rs.length,Oe sw on rs[j].2.2.1=true→((k+j:Nat):Int)∈um l'
 | [],k,acc,l,h=>by
  have h:EL.ok acc=.ok l:=h
  injection h with h
  exact⟨[],by rw[List.append_nil,h],⟨fun x hx=>absurd hx List.not_mem_nil,fun j hj=>absurd hj (Nat.not_lt_zero j)⟩⟩
 | r::rs,k,acc,l,h=>by
  unfold KQ at h
  by_cases c:Oe sw on r.2.2.1=true
  ·rw[if_pos c]at h
   by_cases e:(kL v r.2.2.2.1 r.2.2.2.2.1).2≠0
   ·rw[if_pos e]at h; cases h
   ·rw[if_neg e]at h
    obtain⟨l',e1,e2,e3⟩:=EK v sw on rs (k+1) _ l h
    refine⟨((kL v r.2.2.2.1 r.2.2.2.2.1).1,(r.2.1,(k:Int)))::l',by rw[e1,List.append_assoc]; rfl,fun x hx => ?_,fun j hj N4 => ?_⟩
    ·rcases List.mem_cons.1 hx with rfl | hx
     ·exact⟨0,Nat.zero_lt_succ _,rfl,Classical.not_not.1 e,c⟩
     ·obtain⟨j,hj,q1,q2,q3⟩:=e2 x hx
      refine⟨j+1,Nat.succ_lt_succ hj,?_,q2,q3⟩
      rw[q1,show k+1+j=k+(j+1) by omega]
      rfl
    ·cases j with
     | zero=>exact List.mem_cons_self
     | succ j =>
      have:=e3 j (Nat.lt_of_succ_lt_succ hj) N4
      rw[show k+1+j=k+(j+1) by omega]at this
      exact List.mem_cons_of_mem _ this
  ·rw[if_neg c]at h
   obtain⟨l',e1,e2,e3⟩:=EK v sw on rs (k+1) acc l h
   refine⟨l',e1,fun x hx => ?_,fun j hj N4 => ?_⟩
   ·obtain⟨j,hj,q1,q2,q3⟩:=e2 x hx
    refine⟨j+1,Nat.succ_lt_succ hj,?_,q2,q3⟩
    rw[q1,show k+1+j=k+(j+1) by omega]
    rfl
   ·cases j with
    | zero=>exact absurd N4 c
    | succ j =>
     have:=e3 j (Nat.lt_of_succ_lt_succ hj) N4
     rw[show k+1+j=k+(j+1) by omega]at this
     exact this
theorem S6{v:zK}{sw:List Switch}{on:List Bool}{rs:List uX}{l:List (AC×Int×Int)}(h:KQ v sw on 0 rs []=.ok l):∀ x∈l,∃ j,∃ h:j<rs.length,x=((kL v rs[j].2.2.2.1 rs[j].2.2.2.2.1).1,(rs[j].2.1,(j:Int)))∧(kL v rs[j].2.2.2.1 rs[j].2.2.2.2.1).2=0:=by
 obtain⟨l',e1,e2,e3⟩:=EK v sw on rs 0 [] l h
 rw[List.nil_append]at e1
 subst e1
 intro x hx
 obtain⟨j,hj,q1,q2,-⟩:=e2 x hx
 rw[Nat.zero_add]at q1
 exact⟨j,hj,q1,q2⟩
theorem Ow(f:Form)(on:List Bool)(v:zK)(hv:gI v)(hl:f.1.length≤1000000000)(ho:on.length=f.1.length)(hr:∀ r∈f.2.2.2.2.1,z56 r)(hrl:f.2.2.2.2.1.length≤1000000) :
  ∀ (m k:Nat) (acc:List (AC×Int×Int)),k+m=f.2.2.2.2.1.length→acc.length≤k →
   match KQ v f.1 on k (f.2.2.2.2.1.drop k) acc with
   | .ok l=>(kY on f ((k:Int),(v,(ue acc,um acc)))).run=some (.inl (v,(ue l,um l)))
   | .er nm e=>∃ z,(kY on f ((k:Int),(v,(ue acc,um acc)))).run=some (.inr (nm,(e,z))):=by
 intro m
 induction m with
 | zero =>
  intro k acc hk ha
  have:k=f.2.2.2.2.1.length:=by omega
  subst this
  rw[List.drop_length]
  show(kY on f _).run=_
  refine qf ?_
  unfold u9
  dsimp only
  rw[z8 (xi _),ze _ rfl rfl rfl,ze _ rfl rfl rfl,zx _ rfl,zx _ rfl,z7]
 | succ m ih =>
  intro k acc hk ha
  have h1:k<f.2.2.2.2.1.length:=by omega
  have RS:=hr _ (List.getElem_mem h1)
  have N4:=z5L f on f.2.2.2.2.1[k].2.2.1 hl ho
  have hsd:=H8 hv f.2.2.2.2.1[k] RS.a1 RS.a2 RS.n1 RS.n2 RS.b1 RS.b2
  have cl:=sF acc
  have rl:=rN acc
  rw[List.drop_eq_getElem_cons h1]
  unfold KQ
  by_cases c:Oe f.1 on f.2.2.2.2.1[k].2.2.1=true
  ·rw[if_pos c]
   by_cases e:(kL v f.2.2.2.2.1[k].2.2.2.1 f.2.2.2.2.1[k].2.2.2.2.1).2≠0
   ·rw[if_pos e]
    refine⟨(v,(ue acc,um acc)),?_⟩
    refine qf ?_
    unfold u9
    dsimp only
    rw[za (qK h1),zc (zm h1),qZ h1,z6 N4,z8 (by rw[c]; rfl),zc (zm h1),z6 hsd]
    generalize kL v f.2.2.2.2.1[k].2.2.2.1 f.2.2.2.2.1[k].2.2.2.2.1=S at e ⊢
    obtain⟨S1,S2⟩:=S
    rw[mH e]
    dsimp only at e ⊢
    rw[za (by simpa using e),zc (zm h1),zx _ rfl,zx _ rfl,z7]
   ·rw[if_neg e]
    have HC:=ih (k+1) (acc++[((kL v f.2.2.2.2.1[k].2.2.2.1 f.2.2.2.2.1[k].2.2.2.2.1).1,(f.2.2.2.2.1[k].2.1,(k:Int)))]) (by omega) (by rw[List.length_append,List.length_singleton]; omega)
    have st:(u9 on f ((k:Int),(v,(ue acc,um acc)))).run=some (.inl (((k+1:Nat):Int),(v,(ue (acc++[((kL v f.2.2.2.2.1[k].2.2.2.1 f.2.2.2.2.1[k].2.2.2.2.1).1,(f.2.2.2.2.1[k].2.1,(k:Int)))]),um (acc++[((kL v f.2.2.2.2.1[k].2.2.2.1 f.2.2.2.2.1[k].2.2.2.2.1).1,(f.2.2.2.2.1[k].2.1,(k:Int)))]))))):=by
     rw[G5,Gp]
     unfold u9
     dsimp only
     rw[za (qK h1),zc (zm h1),qZ h1,z6 N4,z8 (by rw[c]; rfl),zc (zm h1),z6 hsd]
     generalize kL v f.2.2.2.2.1[k].2.2.2.1 f.2.2.2.2.1[k].2.2.2.2.1=S at e ⊢
     obtain⟨S1,S2⟩:=S
     have:S2=0:=by simpa using e
     subst this
     rw[Uv]
     dsimp only
     rw[z8 (by rfl),xc _ rfl rfl rfl (by omega),xc _ rfl rfl rfl (by omega),ze _ (by simp) rfl (by simp),ze _ (by simp) rfl (by simp),zx _ (by simp),zx _ (by simp),z7,vr k _ h1 (by omega)]
    cases w:KQ v f.1 on (k+1) (f.2.2.2.2.1.drop (k+1)) (acc++[((kL v f.2.2.2.2.1[k].2.2.2.1 f.2.2.2.2.1[k].2.2.2.2.1).1,(f.2.2.2.2.1[k].2.1,(k:Int)))])with
    | ok l=>rw[w]at HC; exact(qC st).trans HC
    | er nm x=>rw[w]at HC; obtain⟨z,g2⟩:=HC; exact⟨z,(qC st).trans g2⟩
  ·rw[if_neg c]
   have HC:=ih (k+1) acc (by omega) (by omega)
   have st:(u9 on f ((k:Int),(v,(ue acc,um acc)))).run=some (.inl (((k+1:Nat):Int),(v,(ue acc,um acc)))):=by
    unfold u9
    dsimp only
    rw[za (qK h1),zc (zm h1),qZ h1,z6 N4,za (by rw[show Oe f.1 on f.2.2.2.2.1[k].2.2.1=false by simpa using c]; rfl),ze _ rfl rfl rfl,ze _ rfl rfl rfl,zx _ rfl,zx _ rfl,z7,vr k _ h1 (by omega)]
   cases w:KQ v f.1 on (k+1) (f.2.2.2.2.1.drop (k+1)) acc with
   | ok l=>rw[w]at HC; exact(qC st).trans HC
   | er nm x=>rw[w]at HC; obtain⟨z,g2⟩:=HC; exact⟨z,(qC st).trans g2⟩
def Wv(rs:List uX):List (AC×Int×Int)→Option zf
 | []=>none
 | x::r=>if U4 x.1=true then some (nth rs x.2.2 (zb zo)).1 else Wv rs r
structure LOk(rs:List uX)(l:List (AC×Int×Int)):Prop where
 len:l.length≤1000000
 sz:∀ x∈l,VT 1000000 x.1∧x.1.1.length≤1000000∧0≤x.2.2∧x.2.2<(rs.length:Int)
theorem sD(l:List (AC×Int×Int)){k:Nat}(h:k<l.length):xm (ue l) (0+Int.toNat (k:Int)) (zb zV)=qO l[k].2.1 l[k].1:=by
 unfold xm ue
 rw[Nat.zero_add,Int.toNat_natCast,List.getD_eq_getElem?_getD,List.getElem?_map,List.getElem?_eq_getElem h]
 rfl
theorem Kd(l:List (AC×Int×Int)){k:Nat}(h:k<l.length):xm (um l) (0+Int.toNat (k:Int)) (zb (.int .i64))=l[k].2.2:=by
 unfold xm um
 rw[Nat.zero_add,Int.toNat_natCast,List.getD_eq_getElem?_getD,List.getElem?_map,List.getElem?_eq_getElem h]
 rfl
theorem z1m(l:List (AC×Int×Int)){k:Nat}(h:k<l.length):nth (ue l) (k:Int) (zb zV)=qO l[k].2.1 l[k].1:=by
 have:=sD l h
 unfold xm at this
 unfold nth
 rwa [Nat.zero_add]at this
theorem z17(l:List (AC×Int×Int)){k:Nat}(h:k<l.length):nth (um l) (k:Int) (zb (.int .i64))=l[k].2.2:=by
 have:=Kd l h
 unfold xm at this
 unfold nth
 rwa [Nat.zero_add]at this
theorem Rh(f:Form)(a0:qM)(v:zK)(l:List (AC×Int×Int))(hl:LOk f.2.2.2.2.1 l):∀ (m k:Nat),k+m=l.length →
  (oM f ((ue l).length:Int) ((k:Int),(a0,((),(v,(ue l,um l)))))).run=some (match Wv f.2.2.2.2.1 (l.drop k)with
   | none=>.inl (a0,((),(v,(ue l,um l))))
   | some nm=>.inr (nm,((8:Int),((([]:List wg),(([]:List Int),())),((),(v,(ue l,um l))))))):=by
 have cl:=sF l
 have rl:=rN l
 intro m
 induction m with
 | zero =>
  intro k hk
  have:k=l.length:=by omega
  subst this
  rw[List.drop_length]
  refine qf ?_
  unfold hZ
  dsimp only
  rw[z8 (by rw[cl]; exact xi _),ze _ rfl rfl rfl,ze _ rfl rfl rfl,zx _ rfl,zx _ rfl,z7]
  rfl
 | succ m ih =>
  intro k hk
  have h1:k<l.length:=by omega
  obtain⟨s1,s2,s3,s4⟩:=hl.sz _ (List.getElem_mem h1)
  have hL:=E4 l[k].2.1 l[k].1 s1 s2
  have hlen:=hl.len
  rw[List.drop_eq_getElem_cons h1]
  unfold Wv
  by_cases c:U4 l[k].1=true
  ·rw[if_pos c]
   refine qf ?_
   unfold hZ
   dsimp only
   rw[za (by rw[cl]; exact qK h1),zc (zm (by omega)),zc (nw.2 ⟨rfl,by rw[Nat.zero_add,Int.toNat_natCast]; omega⟩),sD l h1,z6 hL,za c,zc (zm (by omega)),zc (nw.2 ⟨rfl,by rw[Nat.zero_add,Int.toNat_natCast]; omega⟩),Kd l h1,zc ⟨s3,s4⟩,ze _ rfl rfl rfl,ze _ rfl rfl rfl,zx _ rfl,zx _ rfl,z7]
  ·rw[if_neg c]
   refine(qC (s':=(((k+1:Nat):Int),(a0,((),(v,(ue l,um l)))))) ?_).trans (ih (k+1) (by omega))
   unfold hZ
   dsimp only
   rw[za (by rw[cl]; exact qK h1),zc (zm (by omega)),zc (nw.2 ⟨rfl,by rw[Nat.zero_add,Int.toNat_natCast]; omega⟩),sD l h1,z6 hL,z8 (by simpa using c),ze _ rfl rfl rfl,ze _ rfl rfl rfl,ze _ rfl rfl rfl,zx _ rfl,zx _ rfl,z7,vr k _ h1 (by omega)]
theorem NC(f:Form)(v:zK)(l:List (AC×Int×Int))(hl:LOk f.2.2.2.2.1 l):∀ (m k:Nat),k+m=l.length →
  (nI f ((k:Int),(v,(ue l,um l)))).run=some (match Wv f.2.2.2.2.1 (l.drop k)with
   | none=>.inl (v,(ue l,um l))
   | some nm=>.inr (nm,((8:Int),(v,(ue l,um l))))):=by
 have cl:=sF l
 have rl:=rN l
 intro m
 induction m with
 | zero =>
  intro k hk
  have:k=l.length:=by omega
  subst this
  rw[List.drop_length]
  refine qf ?_
  unfold gQ
  dsimp only
  rw[z8 (by rw[cl]; exact xi _),ze _ rfl rfl rfl,ze _ rfl rfl rfl,zx _ rfl,zx _ rfl,z7]
  rfl
 | succ m ih =>
  intro k hk
  have h1:k<l.length:=by omega
  obtain⟨s1,s2,s3,s4⟩:=hl.sz _ (List.getElem_mem h1)
  have hL:=JZ l[k].2.1 l[k].1 s1 s2
  have hlen:=hl.len
  rw[List.drop_eq_getElem_cons h1]
  unfold Wv
  by_cases c:U4 l[k].1=true
  ·rw[if_pos c]
   refine qf ?_
   unfold gQ
   dsimp only
   rw[za (by rw[cl]; exact qK h1),zc (zm (by omega)),zc (nw.2 ⟨rfl,by rw[Nat.zero_add,Int.toNat_natCast]; omega⟩),sD l h1,z6 hL,za c,zc (zm (by omega)),zc (nw.2 ⟨rfl,by rw[Nat.zero_add,Int.toNat_natCast]; omega⟩),Kd l h1,zc ⟨s3,s4⟩,zx _ rfl,zx _ rfl,z7]
  ·rw[if_neg c]
   refine(qC (s':=(((k+1:Nat):Int),(v,(ue l,um l)))) ?_).trans (ih (k+1) (by omega))
   unfold gQ
   dsimp only
   rw[za (by rw[cl]; exact qK h1),zc (zm (by omega)),zc (nw.2 ⟨rfl,by rw[Nat.zero_add,Int.toNat_natCast]; omega⟩),sD l h1,z6 hL,z8 (by simpa using c),ze _ rfl rfl rfl,ze _ rfl rfl rfl,zx _ rfl,zx _ rfl,z7,vr k _ h1 (by omega)]
def vF(f:Form)(ps:List Rat):zK:=(f.2.2.2.1.map (·.1),(f.2.1.map (·.1),(ps,())))
theorem Ce(f:Form)(ps:List Rat)(h:FS f)(Bo:ps.length≤1000000000):(mQ f ps).run=some (vF f ps):=by
 have hn:=h.n
 have key:=T.mZ (r:=cT f) f.2.1 (zb zX) (fun(b:List zf) i=>(i,(([]:List Rat),()),ps,(f.2.2.2.1.map (·.1),()),[],[],b)) (fun k b=>b.length=k) (fun b x=>b++[x.1])
  (fun b=>((([]:List Rat),()),ps,(f.2.2.2.1.map (·.1),()),[],[],b)) (fun k b x hk hx hm hI => ?_) (fun b hI => ?_) (b:=[]) rfl
 ·obtain⟨k1,k2⟩:=key
  rw[ZT,List.nil_append]at k1 k2
  have k1:(WK f ((0:Int),((([]:List Rat),()),(ps,((f.2.2.2.1.map (·.1),()),(([]:List zf),(([]:List zf),([]:List zf)))))))).run=some ((([]:List Rat),()),ps,(f.2.2.2.1.map (·.1),()),[],[],f.2.1.map (·.1)):=k1
  unfold mQ
  rw[z6 (ny f h),xc _ rfl rfl rfl (by omega),ze _ rfl rfl rfl,ze _ rfl rfl rfl,zc (by omega),ze _ rfl rfl rfl,ze _ (by omega) rfl (by omega),T.zk,T.zk,T.zk,z6 k1,T.zk,T.zk,z7,Nat.zero_add,List.take_length,List.drop_zero,Nat.zero_add,List.take_length,List.drop_zero]
  rfl
 ·refine⟨?_,by simp; omega⟩
  unfold cT
  dsimp only
  rw[za (qK hk),zc (zm hk),hx,xc _ rfl rfl rfl (by omega),ze _ rfl rfl rfl,ze _ rfl rfl rfl,T.zk,ze _ (by simp) rfl (by simp),ze _ rfl rfl rfl,T.zk,T.zk,zc (by simp),z7,vr k _ hk (by omega)]
 ·unfold cT
  dsimp only
  rw[z8 (xi _)]
  rw[ze _ rfl rfl rfl,ze _ rfl rfl rfl,T.zk,ze _ rfl rfl rfl,ze _ rfl rfl rfl,T.zk,T.zk,T.zk,z7]
theorem DV(l:List Rat)(g:Rat→T Bool)(p:Rat→Bool)(hg:∀ x∈l,(g x).run=some (p x))(hl:l.length≤1000000000):(xg l g).run=some (l.any p):=by
 have key:(kC l g (l.length:Int) 0).run=some (if PL.vL p 0 l = -1 then .inl ()else .inr (PL.vL p 0 l)):=by
  refine PL.yS l (zb zJ) p (fun i h hi hp => ?_) (fun i h hi hp => ?_) (fun i hi => ?_)
  ·have hm:=vk (d:=zb zJ) h hi
   simp(disch:=omega) [xI,hi,hg _ hm,hp]
  ·have hm:=vk (d:=zb zJ) h hi
   simp(disch:=omega) [xI,hi,hg _ hm,hp]
  ·simp[xI,hi]
 have hx:(wZ l g).run=some (PL.vL p 0 l):=by
  unfold wZ
  rw[z6 key]
  split<;>rename_i h<;>simp[h]
 unfold xg
 rw[z6 hx,z7,PL.eO _ _ _ (Int.le_refl 0)]
def Wy(a:Rat):Bool := !(dR a && !wW a)
theorem z5c(a:Rat)(h:xf 100 a):(wI a).run=some (Wy a):=by
 unfold wI Wy
 rw[z6 (oH a (xR h (by omega)))]
 cases dR a with
 | false=>rw[za (by rfl),z7]; rfl
 | true=>rw[z8 (by rfl),z6 (yw a (xR h (by omega))),z7]; cases wW a<;>rfl
theorem EF(ps:List Rat)(h:∀ x∈ps,xf 100 x)(hl:ps.length≤1000000000)(on:List Bool)(f:Form):(nO ps on f (0:Int)).run=some (if ps.any Wy=true then .inr (([]:zf),(1:Int))else .inl ()):=by
 have key:∀ (m k:Nat),k+m=ps.length→(nO ps on f (k:Int)).run=some (if(ps.drop k).any Wy=true then .inr (([]:zf),(1:Int))else .inl ()):=by
  intro m
  induction m with
  | zero =>
   intro k hk
   have:k=ps.length:=by omega
   subst this
   rw[List.drop_length]
   refine qf ?_
   unfold b8
   rw[z8 (xi _),z7]
   rfl
  | succ m ih =>
   intro k hk
   have h1:k<ps.length:=by omega
   have hG:=mc _ (xR (h _ (List.getElem_mem h1)) (by omega))
   rw[List.drop_eq_getElem_cons h1,List.any_cons]
   cases q:Wy ps[k]with
   | true =>
    rw[Bool.true_or,if_pos rfl]
    refine qf ?_
    unfold b8
    rw[za (qK h1),zc (zm h1),qZ h1,z6 hG,za (show(!(dR ps[k] && !wW ps[k]))=true from q),z7]
   | false =>
    rw[Bool.false_or]
    refine(qC (s':=((k+1:Nat):Int)) ?_).trans (ih (k+1) (by omega))
    unfold b8
    rw[za (qK h1),zc (zm h1),qZ h1,z6 hG,z8 (show(!(dR ps[k] && !wW ps[k]))=false from q),z7,vr k _ h1 (by omega)]
 have:=key ps.length 0 (by omega)
 rwa [List.drop_zero]at this
def elF(f:Form)(ps:List Rat)(on:List Bool):EL :=
 if(DJ f).1≠0 then .er (DJ f).2 (DJ f).1
 else if ps.length≠f.2.1.length∨on.length≠f.1.length then .er [] 1
 else if ps.any Wy=true then .er [] 1
 else match KQ (vF f ps) f.1 on 0 f.2.2.2.2.1 []with
  | .er n e=>.er n e
  | .ok l=>match Wv f.2.2.2.2.1 l with
   | some n=>.er n 8
   | none=>.ok l
def SW:EL→qM×zf×Int
 | .er n e=>((([]:List wg),(([]:List Int),())),(n,e))
 | .ok l=>((ue l,(um l,())),(([]:zf),(0:Int)))
def S9:EL→List wg×List Int×zf×Int
 | .er n e=>(([]:List wg),(([]:List Int),(n,e)))
 | .ok l=>(ue l,(um l,(([]:zf),(0:Int))))
theorem OG{f:Form}(h:FS f){ps:List Rat}(hp:ps.length=f.2.1.length)(ho:∀ x∈ps,xf 100 x):gI (vF f ps):=by
 have hn:=h.n
 exact⟨by show(f.2.2.2.1.map (·.1)).length≤_; rw[List.length_map]; omega,by show(f.2.1.map (·.1)).length≤_; rw[List.length_map]; omega,by show ps.length≤_; omega,ho⟩
theorem J0{f:Form}(h:FS f):∀ r∈f.2.2.2.2.1,z56 r:=fun r hr=>by
 obtain⟨-,-,ha,hb⟩:=h.r r hr
 have:=Us ha
 have:=Us hb
 have:=jD ha
 have:=jD hb
 exact⟨ha.2,hb.2,by omega,by omega,by omega,by omega⟩
theorem B3{f:Form}(h:FS f){v:zK}(hv:gI v){on:List Bool}{l:List (AC×Int×Int)}(e:KQ v f.1 on 0 f.2.2.2.2.1 []=.ok l):LOk f.2.2.2.2.1 l:=by
 have hn:=h.n
 refine⟨?_,fun x hx => ?_⟩
 ·have:∀ (rs:List uX) (k:Nat) (acc l:List (AC×Int×Int)),KQ v f.1 on k rs acc=.ok l→l.length≤acc.length+rs.length:=by
   intro rs
   induction rs with
   | nil=>intro k acc l e; injection (show EL.ok acc=.ok l from e)with e; subst e; exact Nat.le_add_right _ _
   | cons r rs ih =>
    intro k acc l e
    unfold KQ at e
    rw[List.length_cons]
    split at e
    ·split at e
     ·cases e
     ·have:=ih _ _ _ e; rw[List.length_append,List.length_singleton]at this; omega
    ·have:=ih _ _ _ e; omega
  have:=this _ _ _ _ e
  simp only[List.length_nil]at this
  omega
 ·obtain⟨j,hj,q,-⟩:=S6 e x hx
  have hr:=J0 h _ (List.getElem_mem hj)
  have hs:=z2k hv f.2.2.2.2.1[j].2.2.2.1 f.2.2.2.2.1[j].2.2.2.2.1 hr.a1 hr.a2
  rw[q]
  exact⟨uz hs.sz (by omega),Nat.le_trans hs.len (by omega),by show(0:Int)≤(j:Int); omega,by show(j:Int)<_; omega⟩
theorem zcf{f:Form}(h:(DJ f).1=0):∀ s∈f.1,s.1≠[]:=fun s hs e=>by
 obtain⟨hI,-⟩:=z79 h
 have:=Qa hI s.1 (by unfold tS; simp only[List.mem_append]; exact .inl (.inl (.inl (.inl (.inl (List.mem_map.2 ⟨s,hs,rfl⟩))))))
 rw[e]at this
 cases this
theorem D4(f:Form)(h:FS f)(ps:List Rat)(on:List Bool)(Bo:∀ x∈ps,xf 100 x):(fj f ps on).run=some (SW (elF f ps on)):=by
 have hn:=h.n
 unfold fj elF
 rw[z6 (FJ f h)]
 have hsn := @zcf f
 generalize DJ f=S at *
 obtain⟨e,nm⟩:=S
 dsimp only at hsn ⊢
 by_cases c:e≠0
 ·rw[if_pos c,za (by simpa using c),z7]; rfl
 ·have c0:e=0:=by simpa using c
  subst c0
  rw[if_neg c,z8 (by rfl)]
  by_cases c1:ps.length≠f.2.1.length∨on.length≠f.1.length
  ·rw[if_pos c1]
   have mid:(T.ite ((Nat.cast (List.length ps):Int) != (Nat.cast (List.length f.2.1):Int))
      (.ret (true,(([]:List wg),(([]:List Int),()))))
      (.ite ((Nat.cast (List.length on):Int) != (Nat.cast (List.length f.1):Int))
        (.ret (true,(([]:List wg),(([]:List Int),()))))
        (T.bind (xg ps (fun z0=>wI z0)) fun r =>
         .ret (r,(([]:List wg),(([]:List Int),()))))):T ((Bool×qM))).run=some (true,(([]:List wg),(([]:List Int),()))):=by
    by_cases c2:ps.length≠f.2.1.length
    ·rw[za (by rw[bne_iff_ne]; omega),z7]
    ·rw[z8 (by rw[bne_eq_false_iff_eq]; omega),za (by rw[bne_iff_ne]; omega),z7]
   rw[z6 mid]
   dsimp only
   rw[zy,z7]; rfl
  ·have c2:ps.length=f.2.1.length:=by omega
   have c3:on.length=f.1.length:=by omega
   rw[if_neg c1]
   have mid:(T.ite ((Nat.cast (List.length ps):Int) != (Nat.cast (List.length f.2.1):Int))
      (.ret (true,(([]:List wg),(([]:List Int),()))))
      (.ite ((Nat.cast (List.length on):Int) != (Nat.cast (List.length f.1):Int))
        (.ret (true,(([]:List wg),(([]:List Int),()))))
        (T.bind (xg ps (fun z0=>wI z0)) fun r =>
         .ret (r,(([]:List wg),(([]:List Int),()))))):T ((Bool×qM))).run=some (ps.any Wy,(([]:List wg),(([]:List Int),()))):=by
    rw[z8 (by rw[bne_eq_false_iff_eq]; omega),z8 (by rw[bne_eq_false_iff_eq]; omega),z6 (DV ps (fun z0=>wI z0) Wy (fun x hx=>z5c x (Bo x hx)) (by omega)),z7]
   rw[z6 mid]
   dsimp only
   cases q:ps.any Wy with
   | true=>rw[if_pos rfl,zy,z7]; rfl
   | false =>
    rw[if_neg (by decide),zr]
    have hv:=OG h c2 Bo
    have k0:=OH f on (vF f ps) hv (by omega) c3 (hsn rfl) (J0 h) (by omega) (([]:List wg),(([]:List Int),())) f.2.2.2.2.1.length 0 [] (by omega) (Nat.le_refl _)
    have hr:(pW f ps).run=some (vF f ps):=z1b f ps (by omega) (by omega) (by omega)
    rw[z6 hr,ze _ rfl rfl rfl,ze _ rfl rfl rfl,T.zk,T.zk]
    rw[List.drop_zero]at k0
    have hlk := @B3 f h (vF f ps) hv on
    cases w:KQ (vF f ps) f.1 on 0 f.2.2.2.2.1 []with
    | er n x =>
     rw[w]at k0
     obtain⟨-,z,k0⟩:=k0
     have k0:(kU on f f.2.2.2.2.1 (f.2.2.2.2.1.length:Int) ((0:Int),((([]:List wg),(([]:List Int),())),((),(vF f ps,(([]:List wg),([]:List Int))))))).run=_:=k0
     rw[z6 k0]
     rfl
    | ok l =>
     rw[w]at k0
     have hlk:=hlk w
     have k0:(kU on f f.2.2.2.2.1 (f.2.2.2.2.1.length:Int) ((0:Int),((([]:List wg),(([]:List Int),())),((),(vF f ps,(([]:List wg),([]:List Int))))))).run=_:=k0
     have k1:=Rh f (([]:List wg),(([]:List Int),())) (vF f ps) l hlk l.length 0 (by omega)
     rw[List.drop_zero]at k1
     have k1:(oM f ((ue l).length:Int) ((0:Int),((([]:List wg),(([]:List Int),())),((),(vF f ps,(ue l,um l)))))).run=_:=k1
     rw[z6 k0,Sum.elim_inl]
     dsimp only
     rw[ze _ rfl rfl rfl,ze _ rfl rfl rfl,ze _ rfl rfl rfl,T.zk,T.zk,z6 k1]
     cases Wv f.2.2.2.2.1 l with
     | some n=>rfl
     | none =>
      dsimp only
      rw[Sum.elim_inl]
      dsimp only
      rw[T.zk,T.zk,z7,dt,dt]
      rfl
theorem Yx(f:Form)(h:FS f)(ps:List Rat)(on:List Bool)(Bo:∀ x∈ps,xf 100 x):(tL f ps on).run=some (S9 (elF f ps on)):=by
 have hn:=h.n
 unfold tL elF
 rw[z6 (VQ f h)]
 generalize DJ f=S at *
 obtain⟨e,nm⟩:=S
 dsimp only
 by_cases c:e≠0
 ·rw[if_pos c,za (by simpa using c),z7]; rfl
 ·have c0:e=0:=by simpa using c
  subst c0
  rw[if_neg c,z8 (by rfl)]
  by_cases c1:ps.length≠f.2.1.length∨on.length≠f.1.length
  ·rw[if_pos c1,za (by rw[Bool.or_eq_true,bne_iff_ne,bne_iff_ne]; omega),z7]; rfl
  ·have c2:ps.length=f.2.1.length:=by omega
   have c3:on.length=f.1.length:=by omega
   rw[if_neg c1,z8 (by rw[Bool.or_eq_false_iff,bne_eq_false_iff_eq,bne_eq_false_iff_eq]; omega),z6 (EF ps Bo (by omega) on f)]
   cases q:ps.any Wy with
   | true=>rw[if_pos rfl,if_pos rfl]; rfl
   | false =>
    rw[if_neg (by decide),if_neg (by decide),Sum.elim_inl]
    have hv:=OG h c2 Bo
    have k0:=Ow f on (vF f ps) hv (by omega) c3 (J0 h) (by omega) f.2.2.2.2.1.length 0 [] (by omega) (Nat.le_refl _)
    rw[z6 (Ce f ps h (by omega)),ze _ rfl rfl rfl,ze _ rfl rfl rfl,T.zk,T.zk]
    rw[List.drop_zero]at k0
    have hlk := @B3 f h (vF f ps) hv on
    cases w:KQ (vF f ps) f.1 on 0 f.2.2.2.2.1 []with
    | er n x =>
     rw[w]at k0
     obtain⟨z,k0⟩:=k0
     have k0:(kY on f ((0:Int),(vF f ps,(([]:List wg),([]:List Int))))).run=_:=k0
     rw[z6 k0]
     rfl
    | ok l =>
     rw[w]at k0
     have hlk:=hlk w
     have k0:(kY on f ((0:Int),(vF f ps,(([]:List wg),([]:List Int))))).run=_:=k0
     have k1:=NC f (vF f ps) l hlk l.length 0 (by omega)
     rw[List.drop_zero]at k1
     have k1:(nI f ((0:Int),(vF f ps,(ue l,um l)))).run=_:=k1
     rw[z6 k0,Sum.elim_inl]
     dsimp only
     rw[ze _ rfl rfl rfl,ze _ rfl rfl rfl,T.zk,T.zk,z6 k1]
     cases Wv f.2.2.2.2.1 l with
     | some n=>rfl
     | none =>
      dsimp only
      rw[Sum.elim_inl]
      dsimp only
      rw[T.zk,T.zk,z7,dt,dt]
      rfl
def Wt(e:Expr):Prop:=allOk e∧bkE e≤300*wv e
theorem sN:VG eC:=⟨y8,y8,by show(0:Nat)≤100; omega,by show(0:Nat)≤100; omega⟩
theorem Wo(k:Int)(n:Rat)(s:zf)(hn:VG n)(hs:s.length≤24):Wt (.mk k n s []):=by
 refine⟨⟨hn,trivial⟩,?_⟩
 have h3:=hn.2.2.1
 have h4:=hn.2.2.2
 show 1+((1+((List.length n.2.1+1)+((List.length n.2.2.1+1)+1)))+((List.length s+1)+((0+1)+1)))≤300*(1+0)
 omega
theorem Er(k:Int){a b:Expr}(h:Wt a)(h2:Wt b):Wt (z3D k [a,b]):=by
 refine⟨⟨sN,h.1,h2.1,trivial⟩,?_⟩
 show 1+((1+((0+1)+((0+1)+1)))+((0+1)+(((bkE a+(bkE b+0))+1)+1)))≤300*(1+(wv a+(wv b+0)))
 have:=h.2
 have:=h2.2
 omega
theorem Iw:zF 2=[2]:=by rw[y5 (by omega),show 2 / 4294967296=0 from rfl,qz]; rfl
theorem SI:RI [50]=(false,[2],[1],()):=by
 have e:z14 [50]=some (2,1):=by decide +kernel
 unfold RI
 rw[e]
 show kV _ 2 1=_
 unfold kV
 rw[if_neg (by decide),show 2 / Nat.gcd 2 1=2 from rfl,show 1 / Nat.gcd 2 1=1 from rfl,Iw,VF]
 rfl
def Kl(s:zf):Expr:=.mk 2 eC s []
theorem TR:norm (false,[2],[1],())=(false,[2],[1],()):=by
 rw[← SI]
 have e:z14 [50]=some (2,1):=by decide +kernel
 have:RI [50]=kV (List.isPrefixOf [45] [50]) 2 1:=by
  unfold RI
  rw[e]
  rfl
 rw[this]
 exact O8 _ _ _
theorem z39:cr (RI [50])=true:=by
 rw[SI]
 unfold cr dR wW gJ
 rw[TR]
 show(((zF 2==[2])&&((zF 1==[1])&&_))&&_)=true
 rw[Iw,VF]
 rfl
theorem Nf{n:Rat}(h:cr n=true):dR n=true∧n.1=false∧wW n=false∧(xO (norm n).1 (nv (norm n).2.1) (nv (norm n).2.2.1) 0 61).2=true:=by
 unfold cr at h
 simp only[Bool.and_eq_true,Bool.not_eq_true']at h
 exact⟨h.1,h.2.1,h.2.2.1,h.2.2.2⟩
theorem lz(e:Expr)(left:Int)(h0 : -100000000000≤left)(h1:left≤600)(hb:bkE e≤1000000000):(kE e left).run=some (wtE e left):=by
 unfold kE
 refine y4 (fun x:Expr×Int => -100000000000≤x.2∧x.2≤600∧bkE x.1≤1000000000) (fun x=>bkE x.1) (fun x=>wtE x.1 x.2) (fun x hx g hg => ?_) (x:=(e,left)) ⟨h0,h1,hb⟩
 obtain⟨e,left⟩:=x
 obtain⟨h0,h1,hx⟩:=hx
 simp only at hx hg h0 h1
 have hk:=gB e
 have DP:=iA e.kids
 have loop:∀ acc:Int,-1000000000000≤acc→acc≤600→(pS (fun y0 y1=>g (y0,y1)) e (acc,0)).run=some (wtEs e.kids acc):=by
  intro acc a1 a2
  refine mJ e.kids (zb .expr) (fun b i=>(b,i)) (fun b r=>b≤600∧∀ x∈r,x∈e.kids) (fun r b=>wtEs r b) ?_ ?_ ⟨a2,fun x hx=>hx⟩
  ·rintro b x xs i hi0 hi hx ⟨b1,b2⟩
   by_cases HN:0≤b
   ·have hm:=gN (b2 x List.mem_cons_self)
    have hr:=hg (x,b) ⟨by simp only; omega,b1,by simp only; omega⟩ (by simp only; omega)
    simp only at hr
    have:=(Wi x b).1
    refine .inl ⟨wtE x b,?_,⟨by omega,fun y hy=>b2 y (List.mem_cons_of_mem _ hy)⟩,?_⟩
    ·simp(disch:=omega) [jW,hi,hx,HN,hr]
    ·simp[wtEs,HN]
   ·right
    have hw:wtEs (x::xs) b=b:=RX _ _ HN
    simp[jW,hi,HN,hw]
  ·rintro b _
   simp[jW,wtEs]
 unfold cA
 cases e with | mk k n s kids =>
 simp only[Expr.kids,Expr.name,Expr.num,bkE]at *
 have hL:=loop (left-3-s.length-8*n.2.1.length-8*n.2.2.1.length) (by omega) (by omega)
 rw[zN (x:=left-3) (by omega) (by omega),zN (x:=left-3-s.length) (by omega) (by omega),zN (x:=8*(n.2.1.length:Int)) (by omega) (by omega),zN (x:=left-3-s.length-8*n.2.1.length) (by omega) (by omega),
  zN (x:=8*(n.2.2.1.length:Int)) (by omega) (by omega),zN (by omega) (by omega),z6 hL,z7]
 rfl
theorem Cb(f:Form)(h:FB f):∃ b,(cj f).run=some b∧(b=false→FL f∧∀ x∈f.2.2.2.2.1,szE x.2.2.2.1+szE x.2.2.2.2.1≤600):=by
 obtain⟨Tc,iL,hl3,hl4,hl5,hl6,hs,hp,hg,hd,hr,hc⟩:=h
 unfold cj
 have e0:zt ((600:Int)-(zt ((20:Int)*(zt ((zt ((zt ((zt ((zt ((f.1.length:Int)+(f.2.1.length:Int)))+(f.2.2.1.length:Int)))+(f.2.2.2.1.length:Int)))+(f.2.2.2.2.1.length:Int)))+(f.2.2.2.2.2.1.length:Int)))))) =
   600-20*((f.1.length+f.2.1.length+f.2.2.1.length+f.2.2.2.1.length+f.2.2.2.2.1.length+f.2.2.2.2.2.1.length:Nat):Int):=by
  rw[zN (x:=(f.1.length:Int)+(f.2.1.length:Int)) (by omega) (by omega),zN (x:=(f.1.length:Int)+(f.2.1.length:Int)+(f.2.2.1.length:Int)) (by omega) (by omega),zN (x:=(f.1.length:Int)+(f.2.1.length:Int)+(f.2.2.1.length:Int)+(f.2.2.2.1.length:Int)) (by omega) (by omega),
   zN (x:=(f.1.length:Int)+(f.2.1.length:Int)+(f.2.2.1.length:Int)+(f.2.2.2.1.length:Int)+(f.2.2.2.2.1.length:Int)) (by omega) (by omega),zN (x:=(f.1.length:Int)+(f.2.1.length:Int)+(f.2.2.1.length:Int)+(f.2.2.2.1.length:Int)+(f.2.2.2.2.1.length:Int)+(f.2.2.2.2.2.1.length:Int)) (by omega) (by omega),
   zN (x:=20*_) (by omega) (by omega),zN (by omega) (by omega)]
  omega
 rw[e0]
 obtain⟨N,hN⟩:∃ N,f.1.length+f.2.1.length+f.2.2.1.length+f.2.2.2.1.length+f.2.2.2.2.1.length+f.2.2.2.2.2.1.length=N:=⟨_,rfl⟩
 rw[hN]
 obtain⟨n1,r1,a1,b1,P1⟩:=cy (r:=yJ f) f.2.1.length iL (fun k=>∀ hk:k<f.2.1.length,f.2.1[k].1.length≤600∧f.2.1[k].2.1.2.1.length≤75∧f.2.1[k].2.1.2.2.1.length≤75) (fun n k hk h0 h6=>by
  obtain⟨q1,q2,q3,_⟩:=hp _ (List.getElem_mem hk)
  refine⟨n-8*f.2.1[k].2.1.2.1.length-8*f.2.1[k].2.1.2.2.1.length-f.2.1[k].1.length,?_,by omega,by omega,fun h0 _=>⟨by omega,by omega,by omega⟩⟩
  unfold yJ
  dsimp only
  rw[za (Gz hk h0),zc (zm hk),zc (zm hk),zc (zm hk),z7,qZ hk,vr k _ hk (by omega),zN (x:=8*(f.2.1[k].2.1.2.1.length:Int)) (by omega) (by omega),zN (x:=8*(f.2.1[k].2.1.2.2.1.length:Int)) (by omega) (by omega),
   zN (x:=n-_) (by omega) (by omega),zN (x:=n-_-_) (by omega) (by omega),zN (by omega) (by omega)])
  (fun n k hk=>by unfold yJ; dsimp only; rw[z8 (YX hk),z7]) (600-20*(N:Int)) (by omega) (by omega)
 obtain⟨n2,r2,a2,b2,P2⟩:=cy (r:=yQ f) f.1.length Tc (fun k=>∀ hk:k<f.1.length,f.1[k].1.length≤600) (fun n k hk h0 h6=>by
  have q1:=hs _ (List.getElem_mem hk)
  refine⟨n-f.1[k].1.length,?_,by omega,by omega,fun h0 _=>by omega⟩
  unfold yQ
  dsimp only
  rw[za (Gz hk h0),zc (zm hk),z7,qZ hk,vr k _ hk (by omega),zN (by omega) (by omega)])
  (fun n k hk=>by unfold yQ; dsimp only; rw[z8 (YX hk),z7]) n1 a1 (by omega)
 obtain⟨n3,r3,a3,b3,P3⟩:=cy (r:=yR f) f.2.2.1.length hl3 (fun k=>∀ hk:k<f.2.2.1.length,f.2.2.1[k].1.length≤600∧f.2.2.1[k].2.1.length≤600) (fun n k hk h0 h6=>by
  obtain⟨q1,q2⟩:=hg _ (List.getElem_mem hk)
  refine⟨n-f.2.2.1[k].1.length-f.2.2.1[k].2.1.length,?_,by omega,by omega,fun h0 _=>⟨by omega,by omega⟩⟩
  unfold yR
  dsimp only
  rw[za (Gz hk h0),zc (zm hk),zc (zm hk),z7,qZ hk,vr k _ hk (by omega),zN (x:=n-_) (by omega) (by omega),zN (by omega) (by omega)])
  (fun n k hk=>by unfold yR; dsimp only; rw[z8 (YX hk),z7]) n2 a2 (by omega)
 obtain⟨n4,r4,a4,b4,P4⟩:=cy (r:=yj f) f.2.2.2.1.length hl4 (fun k=>∀ hk:k<f.2.2.2.1.length,f.2.2.2.1[k].1.length≤600) (fun n k hk h0 h6=>by
  have q1:=hd _ (List.getElem_mem hk)
  refine⟨n-f.2.2.2.1[k].1.length,?_,by omega,by omega,fun h0 _=>by omega⟩
  unfold yj
  dsimp only
  rw[za (Gz hk h0),zc (zm hk),z7,qZ hk,vr k _ hk (by omega),zN (by omega) (by omega)])
  (fun n k hk=>by unfold yj; dsimp only; rw[z8 (YX hk),z7]) n3 a3 (by omega)
 obtain⟨n5,r5,a5,b5,P5⟩:=cy (r:=yO f) f.2.2.2.2.1.length hl5 (fun k=>∀ hk:k<f.2.2.2.2.1.length,f.2.2.2.2.1[k].1.length≤600∧f.2.2.2.2.1[k].2.2.1.length≤600∧szE f.2.2.2.2.1[k].2.2.2.1≤600∧szE f.2.2.2.2.1[k].2.2.2.2.1≤600∧szE f.2.2.2.2.1[k].2.2.2.1+szE f.2.2.2.2.1[k].2.2.2.2.1≤600) (fun n k hk h0 h6=>by
  obtain⟨q1,q2,q3,q4⟩:=hr _ (List.getElem_mem hk)
  have m1:=Wi f.2.2.2.2.1[k].2.2.2.1 (n-f.2.2.2.2.1[k].1.length-f.2.2.2.2.1[k].2.2.1.length)
  have m2:=Wi f.2.2.2.2.1[k].2.2.2.2.1 (wtE f.2.2.2.2.1[k].2.2.2.1 (n-f.2.2.2.2.1[k].1.length-f.2.2.2.2.1[k].2.2.1.length))
  have s1:=J5 f.2.2.2.2.1[k].2.2.2.1 (n-f.2.2.2.2.1[k].1.length-f.2.2.2.2.1[k].2.2.1.length)
  have s2:=J5 f.2.2.2.2.1[k].2.2.2.2.1 (wtE f.2.2.2.2.1[k].2.2.2.1 (n-f.2.2.2.2.1[k].1.length-f.2.2.2.2.1[k].2.2.1.length))
  have w1:=lz f.2.2.2.2.1[k].2.2.2.1 (n-f.2.2.2.2.1[k].1.length-f.2.2.2.2.1[k].2.2.1.length) (by omega) (by omega) (by omega)
  have w2:=lz f.2.2.2.2.1[k].2.2.2.2.1 (wtE f.2.2.2.2.1[k].2.2.2.1 (n-f.2.2.2.2.1[k].1.length-f.2.2.2.2.1[k].2.2.1.length)) (by omega) (by omega) (by omega)
  refine⟨wtE f.2.2.2.2.1[k].2.2.2.2.1 (wtE f.2.2.2.2.1[k].2.2.2.1 (n-f.2.2.2.2.1[k].1.length-f.2.2.2.2.1[k].2.2.1.length)),?_,by omega,by omega,fun h0 _ => ?_⟩
  ·unfold yO
   dsimp only
   rw[za (Gz hk h0),zc (zm hk),zc (zm hk),zc (zm hk),zc (zm hk),qZ hk,vr k _ hk (by omega),zN (x:=n-_) (by omega) (by omega),zN (x:=n-_-_) (by omega) (by omega),z6 w1,z6 w2,z7]
  ·have t2:=s2 h0
   have t1:=s1 (by omega)
   exact⟨by omega,by omega,by omega,by omega,by omega⟩)
  (fun n k hk=>by unfold yO; dsimp only; rw[z8 (YX hk),z7]) n4 a4 (by omega)
 obtain⟨n6,r6,a6,b6,P6⟩:=cy (r:=yk f) f.2.2.2.2.2.1.length hl6 (fun k=>∀ hk:k<f.2.2.2.2.2.1.length,f.2.2.2.2.2.1[k].1.length≤600∧szE f.2.2.2.2.2.1[k].2.2.2.1≤600∧szE f.2.2.2.2.2.1[k].2.2.2.2.1≤600) (fun n k hk h0 h6=>by
  obtain⟨q1,q3,q4⟩:=hc _ (List.getElem_mem hk)
  have m1:=Wi f.2.2.2.2.2.1[k].2.2.2.1 (n-f.2.2.2.2.2.1[k].1.length)
  have m2:=Wi f.2.2.2.2.2.1[k].2.2.2.2.1 (wtE f.2.2.2.2.2.1[k].2.2.2.1 (n-f.2.2.2.2.2.1[k].1.length))
  have s1:=J5 f.2.2.2.2.2.1[k].2.2.2.1 (n-f.2.2.2.2.2.1[k].1.length)
  have s2:=J5 f.2.2.2.2.2.1[k].2.2.2.2.1 (wtE f.2.2.2.2.2.1[k].2.2.2.1 (n-f.2.2.2.2.2.1[k].1.length))
  have w1:=lz f.2.2.2.2.2.1[k].2.2.2.1 (n-f.2.2.2.2.2.1[k].1.length) (by omega) (by omega) (by omega)
  have w2:=lz f.2.2.2.2.2.1[k].2.2.2.2.1 (wtE f.2.2.2.2.2.1[k].2.2.2.1 (n-f.2.2.2.2.2.1[k].1.length)) (by omega) (by omega) (by omega)
  refine⟨wtE f.2.2.2.2.2.1[k].2.2.2.2.1 (wtE f.2.2.2.2.2.1[k].2.2.2.1 (n-f.2.2.2.2.2.1[k].1.length)),?_,by omega,by omega,fun h0 _ => ?_⟩
  ·unfold yk
   dsimp only
   rw[za (Gz hk h0),zc (zm hk),zc (zm hk),zc (zm hk),qZ hk,vr k _ hk (by omega),zN (x:=n-_) (by omega) (by omega),z6 w1,z6 w2,z7]
  ·have t2:=s2 h0
   have t1:=s1 (by omega)
   exact⟨by omega,by omega,by omega⟩)
  (fun n k hk=>by unfold yk; dsimp only; rw[z8 (YX hk),z7]) n5 a5 (by omega)
 have r1:(Z6 f (600-20*(N:Int),0)).run=some n1:=r1
 have r2:(Zz f (n1,0)).run=some n2:=r2
 have r3:(Zd f (n2,0)).run=some n3:=r3
 have r4:(Zx f (n3,0)).run=some n4:=r4
 have r5:(Zr f (n4,0)).run=some n5:=r5
 have r6:(Z0 f (n5,0)).run=some n6:=r6
 rw[z6 r1,z6 r2,z6 r3,z6 r4,z6 r5,z6 r6,z7]
 refine⟨_,rfl,fun hb => ?_⟩
 have h0:0≤n6:=by have:=of_decide_eq_false hb; omega
 have R5:∀ x∈f.2.2.2.2.1,x.1.length≤600∧x.2.2.1.length≤600∧szE x.2.2.2.1≤600∧szE x.2.2.2.2.1≤600∧szE x.2.2.2.1+szE x.2.2.2.2.1≤600:=Wx fun k hk=>P5 (by omega) k hk hk
 exact⟨⟨by omega,Wx fun k hk=>P2 (by omega) k hk hk,Wx fun k hk=>P1 (by omega) k hk hk,Wx fun k hk=>P3 (by omega) k hk hk,Wx fun k hk=>P4 (by omega) k hk hk,fun x hx=>⟨(R5 x hx).1,(R5 x hx).2.1,(R5 x hx).2.2.1,(R5 x hx).2.2.2.1⟩,Wx fun k hk=>P6 (by omega) k hk hk⟩,fun x hx=>(R5 x hx).2.2.2.2⟩
theorem Fj(l:List Rat)(hl:l.length≤4000000000000):∃ b,(fe l).run=some b∧(b=false→∀ x∈l,x.2.1.length≤3∧x.2.2.1.length≤3):=by
 have:=T.xh (r:=bL l) (fun s:Int×Int=>∃ k:Nat,s.2=(k:Int)∧k≤l.length∧∀ x∈l.take k,x.2.1.length≤3∧x.2.2.1.length≤3) (fun s=>l.length-s.2.toNat)
  (fun z:Unit⊕Bool=>z=.inr true∨(z=.inl ()∧∀ x∈l,x.2.1.length≤3∧x.2.2.1.length≤3)) (fun s hs => ?_) (s:=(0,0)) ⟨0,rfl,by omega,by simp⟩
 ·obtain⟨z,h1,h2⟩:=this
  have h1:(XU l (0,0)).run=some z:=h1
  unfold fe
  rw[z6 h1]
  rcases h2 with rfl | ⟨rfl,h2⟩
  ·exact⟨true,rfl,fun h=>by cases h⟩
  ·exact⟨false,rfl,fun _=>h2⟩
 ·obtain⟨n,i⟩:=s
  obtain⟨k,rfl,hk,hI⟩:=hs
  by_cases c:k<l.length
  ·unfold bL
   simp only
   rw[za (qK c),zc (zm c),zc (zm c),zc (fun _=>⟨zm c,fun _=>zm c⟩)]
   have hx:nth l (k:Int) (zb zJ)=l[k]:=by simp[nth,c]
   rw[hx]
   generalize decide ((100:Int)<zt (zt (zt (n+1)+((l[k]).2.1.length:Int))+((l[k]).2.2.1.length:Int)))=b
   cases hb:(b||(decide ((3:Int)<((l[k]).2.1.length:Int))||decide ((3:Int)<((l[k]).2.2.1.length:Int))))with
   | true=>right; exact⟨_,rfl,.inl rfl⟩
   | false =>
    simp only[Bool.or_eq_false_iff,decide_eq_false_iff_not]at hb
    left
    refine⟨_,rfl,⟨k+1,vr k _ c hl,c,fun x hx => ?_⟩,?_⟩
    ·rw[List.take_succ_eq_append_getElem c]at hx
     rcases List.mem_append.1 hx with hx | hx
     ·exact hI x hx
     ·have:x=l[k]:=by simpa using hx
      subst this; omega
    ·simp only[vr k _ c hl]; omega
  ·have DP:k=l.length:=by omega
   right
   refine⟨.inl (),?_,.inr ⟨rfl,?_⟩⟩
   ·unfold bL
    simp only
    rw[z8 (decide_eq_false (by omega)),z7]
   ·rw[DP,List.take_length]at hI; exact hI
theorem Q0{q:Q}(h:xw q≤16):tR q=false:=by
 have h1:=wT q
 have h2:=wh q
 unfold tR wW
 rw[xl,vg,Bool.or_eq_false_iff,decide_eq_false_iff_not,decide_eq_false_iff_not]
 rw[j6,cH]
 omega
theorem Km{q:Q}(h:tR q=false):xw q≤16:=by
 unfold tR wW at h
 rw[xl,vg,Bool.or_eq_false_iff,decide_eq_false_iff_not,decide_eq_false_iff_not,j6,cH]at h
 unfold xw
 omega
theorem G2{rs:List uX}:∀ {l:List (AC×Int×Int)},Wv rs l=none→∀ x∈l,VT 16 x.1
 | [],_,x,hx=>by cases hx
 | y::r,h,x,hx=>by
  unfold Wv at h
  by_cases c:U4 y.1=true
  ·rw[if_pos c]at h; cases h
  ·rw[if_neg c]at h
   rcases List.mem_cons.1 hx with rfl | hx
   ·have c:U4 x.1=false:=by simpa using c
    unfold U4 at c
    rw[Bool.or_eq_false_iff,List.any_eq_false]at c
    exact⟨Km c.1,fun t ht=>Km (by simpa using c.2 t ht)⟩
   ·exact G2 h x hx
abbrev R2:Rat:=(false,(([2]:List Int),(([1]:List Int),())))
theorem G9:xj (2:Q)=R2:=by
 show(decide ((2:Q).num<0),(zF 2,(zF 1,())))=R2
 rw[Iw,VF]
 rfl
theorem z6l:val R2=2:=by rw[← G9,vg]
theorem DN:xw (2:Q)≤16:=by
 unfold xw
 show max (zF 2).length (zF 1).length≤16
 rw[Iw,VF]
 decide
def eM:Expr:=z3D 5 [Kl [97],Kl [112]]
def f9:Form:=(([]:List Switch),(([(([112]:zf),(R2,()))]:List Param),(([(([113]:zf),(([]:zf),()))]:List ri),(([(([97]:zf),((0:Int),(false,((0:Int),())))),(([98]:zf),((0:Int),(false,((0:Int),()))))]:List Field),(([(([114]:zf),((0:Int),(([]:zf),(eM,(Kl [98],())))))]:List uX),(([]:List Check),()))))))
theorem z2N:Wt eM:=Er 5 (Wo 2 eC _ sN (by simp)) (Wo 2 eC _ sN (by simp))
theorem z1R:Wt (Kl [98]):=Wo 2 eC _ sN (by simp)
theorem zaF:FS f9:=by
 refine⟨by decide,fun x hx=>absurd hx List.not_mem_nil,fun x hx => ?_,fun x hx => ?_,fun x hx => ?_,fun x hx => ?_,fun x hx=>absurd hx List.not_mem_nil⟩
 ·rw[List.mem_singleton.1 hx]
  refine⟨by show 1≤600; omega,?_,?_,by show 1≤100; omega,by show 1≤100; omega⟩
  ·rw[← G9]; exact(qT (Nat.le_refl _)).1
  ·rw[← G9]; exact(qT (Nat.le_refl _)).2.1
 ·rw[List.mem_singleton.1 hx]; exact⟨by show 1≤600; omega,by show 0≤600; omega⟩
 ·rcases List.mem_cons.1 hx with rfl | hx
  ·show 1≤600; omega
  ·rw[List.mem_singleton.1 hx]; show 1≤600; omega
 ·rw[List.mem_singleton.1 hx]
  exact⟨by show 1≤600; omega,by show 0≤600; omega,⟨by decide,z2N.1⟩,by decide,z1R.1⟩
theorem zbU:dP (norm R2)=[50]:=by
 rw[TR]
 unfold dP
 rw[if_pos (by decide)]
 show Ld false++pr 2=[50]
 unfold pr
 rw[if_neg (by decide),tr (by decide),show 2 / 10=0 from rfl,sL]
 rfl
theorem z5F:(frS f9).length≤16384:=by
 have h1:(FV ([112],(R2,()))).length≤100:=by unfold FV; rw[zbU]; decide
 have e:frS f9=([]++(FV ([112],(R2,()))++[])++(List.range 1).flatMap (IF f9))++(LB ([114],(0,([],(eM,(Kl [98],())))))++[]):=rfl
 have h2:((List.range 1).flatMap (IF f9)).length≤1000:=by decide +kernel
 have h3:(LB ([114],(0,([],(eM,(Kl [98],())))))).length≤1000:=by decide +kernel
 rw[e]
 simp only[List.length_append,List.length_nil]
 omega
theorem LX:dR R2=true∧wW R2=false:=by
 have:=Nf z39
 rw[SI]at this
 exact⟨this.1,this.2.2.1⟩
theorem z9k:pH f9=true:=by
 have h2:a2 f9=true:=by
  show(!(fE ([112],(R2,()))||false))=true
  unfold fE
  rw[LX.1,LX.2]
  rfl
 unfold pH
 rw[h2,decide_eq_true (by have:=z5F; omega)]
 decide +kernel
theorem zaI:DJ f9=(0,[]):=by
 unfold DJ
 rw[if_pos z9k,show(tT [] (tS f9)).2=false by decide +kernel,if_neg (by decide),show Od f9=none by decide +kernel,show Ov f9=none by decide +kernel,show lnF f9=none by decide +kernel]
 rfl
def l9:List (AC×Int×Int):=[(([(0,2),(1,-1)],0),(0,0))]
theorem z2w:kL (vF f9 [R2]) eM (Kl [98])=(([(0,2),(1,-1)],0),0):=by
 have n1:mE (vF f9 [R2]) [97]=(([(0,1)],0),0):=by decide +kernel
 have n3:mE (vF f9 [R2]) [98]=(([(1,1)],0),0):=by decide +kernel
 have n2:mE (vF f9 [R2]) [112]=(([],2),0):=by
  show(if 0≤PL.vL (zH [112]) 0 [[97],[98]]then _ else if PL.vL (zH [112]) 0 [[112]]<0 then(VV,5)else(([],Zo [R2] (PL.vL (zH [112]) 0 [[112]])),0))=_
  rw[if_neg (by decide +kernel),if_neg (by decide +kernel)]
  show((([]:List (Int×Q)),val R2),(0:Int))=_
  rw[z6l]
 have o1:QQ (vF f9 [R2]) eM=(([(0,2)],0),0):=by
  unfold QQ
  rw[if_pos (by decide +kernel)]
  show z4Z 5 [mE (vF f9 [R2]) [97],mE (vF f9 [R2]) [112]]=_
  rw[n1,n2]
  decide +kernel
 have o2:QQ (vF f9 [R2]) (Kl [98])=(([(1,1)],0),0):=by
  unfold QQ
  rw[if_pos (by decide +kernel)]
  exact n3
 unfold kL
 rw[o1,o2]
 decide +kernel
theorem zaH:elF f9 [R2] []=.ok l9:=by
 have hr:KQ (vF f9 [R2]) f9.1 [] 0 f9.2.2.2.2.1 []=.ok l9:=by
  show(if Oe [] [] []=true then(if(kL (vF f9 [R2]) eM (Kl [98])).2≠0 then EL.er [114] (kL (vF f9 [R2]) eM (Kl [98])).2 else EL.ok ([]++[((kL (vF f9 [R2]) eM (Kl [98])).1,((0:Int),((0:Nat):Int)))]))else EL.ok [])=_
  rw[if_pos (by decide +kernel),z2w]
  rfl
 have hb:Wv f9.2.2.2.2.1 l9=none:=by
  show(if U4 ([(0,2),(1,-1)],0)=true then _ else none)=none
  have:U4 ([(0,2),(1,-1)],0)=false:=by
   show(tR 0||(tR 2||(tR (-1)||false)))=false
   rw[Q0 (q:=0) (by rw[tu]; omega),Q0 DN,Q0 (q := -1) (by rw[cG]; omega)]
   rfl
  rw[this]; rfl
 unfold elF
 rw[zaI,if_neg (by decide),if_neg (by decide),if_neg (by
  show ¬ (Wy R2||false)=true
  unfold Wy
  rw[LX.1,LX.2]; decide),hr]
 dsimp only
 rw[hb]
theorem Fs:fG.run=some true:=by
 have h2:(wa (2:Int)).run=some R2:=by rw[← G9]; exact gT 2 ⟨by omega,by omega⟩
 have hE:=D4 f9 zaF [R2] [] (fun x hx=>by rw[List.mem_singleton.1 hx,← G9]; exact qT (Nat.le_trans DN (by omega)))
 rw[zaH]at hE
 have hS:(uD (xj 2) R2).run=some true:=by
  have h:=qT (Nat.le_trans DN (by omega:16≤100000))
  rw[← G9]
  exact CB _ _ h h rfl
 unfold fG
 rw[z6 h2,z6 h2]
 refine(z6 (show(fj f9 [R2] []).run=_ from hE) _).trans ?_
 show(T.ite true (T.ite (zH [] []) (T.ite true (.zd _<|.ite true (.zd _<|.zd _<|T.bind (wa (2:Int)) fun r3=>T.bind (uD (xj 2) r3) fun r4=>.ite r4 (.ret true) (.ret false)) (.ret false)) (.ret false)) (.ret false)) (.ret false)).run=_
 rw[zy,za (nJ _),zy,zc ⟨by decide,by decide⟩,zy,zc ⟨by decide,by decide⟩,zc ⟨by decide,by decide⟩,z6 h2,z6 hS,zy,z7]
theorem Ry(s:Int)(c:AC)(h:VT 16 c)(hl:c.1.length≤1000000):(tM (qO s c) (qO s c)).run=some true:=by
 have hq:∀ {q:Q},xw q≤16→(uD (xj q) (xj q)).run=some true:=fun {q} hq=>by
  have h:=qT (Nat.le_trans hq (by omega:16≤100000))
  exact CB _ _ h h rfl
 have key:∀ (m k:Nat),k+m=c.1.length→(oI (qO s c) (qO s c) (k:Int)).run=some (.inl ()):=by
  intro m
  induction m with
  | zero =>
   intro k hk
   have:k=c.1.length:=by omega
   subst this
   refine qf ?_
   unfold eI
   rw[show(qO s c).2.1=c.1.map qs from rfl,List.length_map,z8 (xi _),z7]
  | succ m ih =>
   intro k hk
   have h1:k<c.1.length:=by omega
   have mh:k<(c.1.map qs).length:=by rw[List.length_map]; exact h1
   refine(qC (s':=((k+1:Nat):Int)) ?_).trans (ih (k+1) (by omega))
   unfold eI
   rw[show(qO s c).2.1=c.1.map qs from rfl,za (by rw[List.length_map]; exact qK h1),qZ mh,List.getElem_map]
   refine(z6 (a:=false) ?_ _).trans ?_
   ·rw[zc (zm mh),zc (zm mh),z8 (by simp),zc (zm mh),zc (zm mh)]
    show(T.bind (uD (xj c.1[k].2) (xj c.1[k].2)) _).run=_
    rw[z6 (hq (h.2 _ (List.getElem_mem h1))),z7]; rfl
   ·rw[zr,z7,vr k _ h1 (by omega)]
 have hk:=key c.1.length 0 (by omega)
 have hk:(oI (qO s c) (qO s c) (0:Int)).run=some (.inl ()):=hk
 unfold tM
 refine(z6 (a:=false) ?_ _).trans ?_
 ·rw[z8 (by simp),z8 (by simp)]
  show(T.bind (uD (xj c.2) (xj c.2)) _).run=_
  rw[z6 (hq h.1),z7]; rfl
 ·rw[zr,z6 hk]; rfl
theorem No(a:List zf)(hl:a.length≤1000000000):(cu a a).run=some true:=by
 have key:∀ (m k:Nat),k+m=a.length→(lT a a (k:Int)).run=some (.inl ()):=by
  intro m
  induction m with
  | zero =>
   intro k hk
   have:k=a.length:=by omega
   subst this
   refine qf ?_
   unfold cS
   rw[z8 (xi _),z7]
  | succ m ih =>
   intro k hk
   have h1:k<a.length:=by omega
   refine(qC (s':=((k+1:Nat):Int)) ?_).trans (ih (k+1) (by omega))
   unfold cS
   rw[za (qK h1),zc (zm h1),zc (zm h1),z8 (by rw[nJ]; rfl),z7,vr k _ h1 (by omega)]
 have hk:(lT a a (0:Int)).run=some (.inl ()):=key a.length 0 (by omega)
 unfold cu
 rw[z8 (by simp),z6 hk]
 rfl
theorem z6M{f:Form}{ps:List Rat}{on:List Bool}{l:List (AC×Int×Int)}(h:elF f ps on=.ok l):(DJ f).1=0∧ps.length=f.2.1.length∧on.length=f.1.length∧KQ (vF f ps) f.1 on 0 f.2.2.2.2.1 []=.ok l∧Wv f.2.2.2.2.1 l=none:=by
 unfold elF at h
 by_cases c:(DJ f).1≠0
 ·rw[if_pos c]at h; cases h
 ·rw[if_neg c]at h
  by_cases c1:ps.length≠f.2.1.length∨on.length≠f.1.length
  ·rw[if_pos c1]at h; cases h
  ·rw[if_neg c1]at h
   by_cases c2:ps.any Wy=true
   ·rw[if_pos c2]at h; cases h
   ·rw[if_neg c2]at h
    cases w:KQ (vF f ps) f.1 on 0 f.2.2.2.2.1 []with
    | er n e=>rw[w]at h; cases h
    | ok m =>
     rw[w]at h
     dsimp only at h
     cases hb:Wv f.2.2.2.2.1 m with
     | some n=>rw[hb]at h; cases h
     | none =>
      rw[hb]at h
      injection h with h
      subst h
      exact⟨Classical.not_not.1 c,by omega,by omega,rfl,hb⟩
theorem N9(l:List Rat)(hw:∀ x∈l,zu x.2.1∧zu x.2.2.1)(hl:l.length≤4000000000000):∃ b,(fe l).run=some b∧(b=false→∀ x∈l,xf 100 x):=by
 obtain⟨b,h1,h2⟩:=Fj l hl
 exact⟨b,h1,fun h x hx=>⟨(hw x hx).1,(hw x hx).2,by have:=h2 h x hx; omega,by have:=h2 h x hx; omega⟩⟩
theorem looked9(f:Form)(hw:wf zG f)(hb:bk zG f≤1048576):∃ b,(cj f).run=some b∧(b=false→FS f):=by
 obtain⟨b,hr,hf⟩:=Cb f (z4c hw hb)
 exact⟨b,hr,fun h=>zck hw (z4c hw hb) (hf h).1⟩
theorem Q8(f:Form)(ps:List Rat)(on:List Bool)(hw:wf zG f)(hb:bk zG f≤1048576)(hp:∀ x∈ps,zu x.2.1∧zu x.2.2.1)(hl:ps.length≤1048576):(bn f ps on).run=some true:=by
 obtain⟨b1,r1,f1⟩:=looked9 f hw hb
 obtain⟨b2,r2,f2⟩:=N9 ps hp (by omega)
 unfold bn
 have head:(T.bind (cj f) fun r =>
   .ite r
    (.ret true)
    (T.bind (fe ps) fun r1 =>
     .ite r1
      (.ret true)
      (.ret (decide ((30:Int)<(Nat.cast (List.length on):Int))))):T (Bool)).run=some (b1||(b2||decide ((30:Int)<(on.length:Int)))):=by
  rw[z6 r1]
  cases b1 with
  | true=>rfl
  | false =>
   rw[zr,z6 r2]
   cases b2<;>rfl
 rw[z6 head]
 cases b1 with
 | true=>rfl
 | false =>
 cases b2 with
 | true=>rfl
 | false =>
 cases N4:decide ((30:Int)<(on.length:Int))with
 | true=>rfl
 | false =>
  have h:=f1 rfl
  have Bo:=f2 rfl
  have hn:=h.n
  show(T.ite false _ _).run=_
  rw[zr,z6 (D4 f h ps on Bo)]
  have tail:(T.bind (gF f) fun r4=>T.bind (mQ f ps) fun r5=>T.bind (cu r4 r5.1) fun r6=>.ite r6 (T.bind (fG) fun r7=>.ret r7) (.ret false):T Bool).run=some true:=by
   rw[z6 (Vq f (by omega)),z6 (Ce f ps h (by omega))]
   show(T.bind (cu (f.2.2.2.1.map (·.1)) (f.2.2.2.1.map (·.1))) _).run=_
   rw[z6 (No _ (by rw[List.length_map]; omega)),zy,z6 Fs,z7]
  cases q:elF f ps on with
  | er n e =>
   have hR:=Yx f h ps on Bo
   rw[q]at hR
   dsimp only[SW]
   rw[z6 hR]
   dsimp only[S9]
   rw[z8 (by rw[nJ]; simp)]
   have lp:(jH ps f [] [] ((0:Int),((([]:List wg),(([]:List Int),()))))).run=some (.inl ((([]:List wg),(([]:List Int),())))):=by
    refine qf ?_
    unfold uc
    dsimp only
    rw[z8 (by decide),z7]
   rw[z6 lp]
   exact tail
  | ok l =>
   obtain⟨xM,XI,hol,hr,hbn⟩:=z6M q
   have hv:=OG h XI Bo
   have hlk:=B3 h hv hr
   have hsm:=G2 hbn
   have hat:=S6 hr
   have cl:=sF l
   have rl:=rN l
   have hR:=Yx f h ps on Bo
   rw[q]at hR
   dsimp only[SW]
   rw[z6 hR]
   dsimp only[S9]
   rw[z8 (by rw[nJ]; simp)]
   have key:∀ (m k:Nat),k+m=l.length→(jH ps f (ue l) (um l) ((k:Int),(ue l,(um l,())))).run=some (.inl (ue l,(um l,()))):=by
    intro m
    induction m with
    | zero =>
     intro k hk
     have:k=l.length:=by omega
     subst this
     refine qf ?_
     unfold uc
     dsimp only
     rw[z8 (by rw[cl]; exact xi _),z7]
    | succ m ih =>
     intro k hk
     have h1:k<l.length:=by omega
     have hlen:=hlk.len
     refine(qC (s':=(((k+1:Nat):Int),(ue l,(um l,())))) ?_).trans (ih (k+1) (by omega))
     obtain⟨s1,s2,s3,s4⟩:=hlk.sz _ (List.getElem_mem h1)
     obtain⟨j,hj,e1,-⟩:=hat _ (List.getElem_mem h1)
     have e3:l[k].2.2=(j:Int):=by rw[e1]
     have e2:l[k].2.1=f.2.2.2.2.1[j].2.1:=by rw[e1]
     unfold uc
     dsimp only
     rw[za (by rw[cl]; exact qK h1)]
     refine(z6 (a:=(false,(ue l,(um l,())))) ?_ _).trans ?_
     ·rw[zc (zm (by omega)),zc (zm (by omega)),z1m l h1,z6 (Ry _ _ (hsm _ (List.getElem_mem h1)) s2),z8 (by rfl),zc (zm (by omega)),zc (zm (by omega)),z8 (by simp),zc (zm (by omega)),zc (zm (by omega)),z17 l h1,zc ⟨s3,s4⟩,z7,e3,qZ hj]
      show some (l[k].2.1 != f.2.2.2.2.1[j].2.1,_)=_
      rw[e2,bne_self_eq_false]
     ·dsimp only
      rw[zr,z7,vr k _ h1 (by omega)]
   have key:(jH ps f (ue l) (um l) ((0:Int),(ue l,(um l,())))).run=_:=key l.length 0 (by omega)
   rw[z6 key]
   exact tail
theorem Q3(x:Yc [zG,.sl zJ,.sl .bool])(hw:wfL [zG,.sl zJ,.sl .bool] x)(hb:bkL [zG,.sl zJ,.sl .bool] x≤1048576) :
  (bn (Fm [zG,.sl zJ,.sl .bool] x).1 (Fm [zG,.sl zJ,.sl .bool] x).2.1 (Fm [zG,.sl zJ,.sl .bool] x).2.2).run=some true:=by
 obtain⟨f,ps,on,u⟩:=x
 have e:bkL [zG,.sl zJ,.sl .bool] (f,ps,on,u)=bk zG f+((c7 (bk zJ) ps+1)+(bk (.sl .bool) on+0)):=rfl
 have hl:=iB (bk zJ) ps (fun x=>by have:bk zJ x=1+((c7 (bk u32) x.2.1+1)+((c7 (bk u32) x.2.2.1+1)+1)):=rfl; omega)
 have h1:wf zG f:=hw.1
 have h2:∀ x∈ps,wf zJ x:=hw.2.1
 exact Q8 f ps on h1 (by omega) (fun x hx=>ED (h2 x hx)) (by omega)
end Go.AM.Lf
