/-
  Plain laws of the lifted program, part 3.
-/
import Derived.Test.YtbafdjlefhlefaaGreatDoorLf1
import Derived.Test.YtbafdjlefhlefaaGreatDoorAmA
import Derived.Test.YtbafdjlefhlefaaGreatDoorAmD
import Derived.Test.YtbafdjlefhlefaaGreatDoorQ0
import Derived.Test.YtbafdjlefhlefaaGreatDoorQ1
import Derived.Test.YtbafdjlefhlefaaGreatDoorQ2
set_option linter.unusedVariables false
open Go.AM.T (jG qK ql z6 z7 z8 zD za zc zr)
namespace Go.AM.Lf
open PL
theorem z7s{X:List Rat}(hX:XOk X){j:Int}(h0:0≤j)(h1:j<(X.length:Int)):qS 100 (nth X j (zb zt)):=by
 have hm:nth X j (zb zt)∈X:=by
  unfold nth
  rw[List.getD_eq_getElem?_getD,List.getElem?_eq_getElem (by omega)]
  exact List.getElem_mem _
 exact hX _ hm
theorem z0p(s:Int)(c:AC){X:List Rat}(hX:XOk X)(hc:Vt 1000 c)(hl:c.1.length≤1000):(XS (qZ s c) X).run=some (qR (mG X c)):=by
 have key:∀ (m k:Nat) (q:Q) (v0:Rat),k+m=c.1.length→qX q≤1000+k*2000→(Qh X (qZ s c) ((k:Int),(v0,qR q))).run=some (v0,qR (q+nH X (c.1.drop k))):=by
  intro m
  induction m with
  | zero =>
   intro k q v0 hk hq
   have:k=c.1.length:=by omega
   subst this
   rw[List.drop_length]
   refine ql ?_
   unfold ob
   dsimp only
   rw[show(qZ s c).2.1=c.1.map qw from rfl,List.length_map,z8 (xo _),z7,show nH X []=0 from rfl,Rat.add_zero]
  | succ m ih =>
   intro k q v0 hk hq
   have h1:k<c.1.length:=by omega
   have nG:k<(c.1.map qw).length:=by rw[List.length_map]; exact h1
   have ht:=hc.2 _ (List.getElem_mem h1)
   have hv:=IH hX c.1[k].1
   have hm:=dq c.1[k].2 (V8 X c.1[k].1)
   have ha:=iu q (c.1[k].2*V8 X c.1[k].1)
   rw[List.drop_eq_getElem_cons h1]
   have e:q+nH X (c.1[k]::c.1.drop (k+1))=(q+c.1[k].2*V8 X c.1[k].1)+nH X (c.1.drop (k+1)):=by
    show q+(c.1[k].2*V8 X c.1[k].1+nH X (c.1.drop (k+1)))=_
    rw[Rat.add_assoc]
   rw[e]
   refine(qK (s':=(((k+1:Nat):Int),(v0,qR (q+c.1[k].2*V8 X c.1[k].1)))) ?_).trans (ih (k+1) _ v0 (by omega) (by omega))
   unfold ob
   dsimp only
   rw[show(qZ s c).2.1=c.1.map qw from rfl,za (by rw[List.length_map]; exact qQ h1),zc (zo nG),xh nG,List.getElem_map]
   show(T.ite (decide ((0:Int)≤c.1[k].1)&&decide (c.1[k].1<(X.length:Int))) (.zd (zi (k:Int) (c.1.map qw).length)<|.zd (zi c.1[k].1 X.length)<|T.bind (kf (qR c.1[k].2) (nth X c.1[k].1 (zb zt))) _) _).run=_
   by_cases g:0≤c.1[k].1∧c.1[k].1<(X.length:Int)
   ·have hn:=z7s hX g.1 g.2
    have ev:V8 X c.1[k].1=val (nth X c.1[k].1 (zb zt)):=by unfold V8; rw[if_pos g]
    have hM:=XJ (qR c.1[k].2) (nth X c.1[k].1 (zb zt)) (qF (by omega)) (xM hn (by omega))
    rw[xX,← ev]at hM
    rw[za (by rw[decide_eq_true g.1,decide_eq_true g.2]; rfl),zc (zo nG),zc (show zi c.1[k].1 X.length from g),z6 hM,z6 (oC _ _ (by omega) (by omega)),z7,vA k _ h1 (by omega)]
   ·have ev:V8 X c.1[k].1=0:=by unfold V8; rw[if_neg g]
    rw[ev,Rat.mul_zero,Rat.add_zero,z8 (by by_cases g0:0≤c.1[k].1; rw[decide_eq_true g0,decide_eq_false (fun g1=>g ⟨g0,g1⟩)]; rfl; rw[decide_eq_false g0]; rfl),z7,vA k _ h1 (by omega)]
 have h0:=hc.1
 unfold XS
 show(T.bind (qL (qR c.2)) _).run=_
 rw[z6 (mg c.2 (by omega))]
 have hk:=key c.1.length 0 c.2 (false,(([]:List Int),(([]:List Int),()))) (by omega) (by omega)
 rw[List.drop_zero]at hk
 have hk:(Qh X (qZ s c) ((0:Int),((false,(([]:List Int),(([]:List Int),()))),qR c.2))).run=_:=hk
 rw[z6 hk]
 dsimp only
 rw[z7]
 rfl
theorem Nr(s:Int)(c:AC){X:List Rat}(hX:XOk X)(hc:Vt 1000 c)(hl:c.1.length≤1000)(hq:qX (mG X c)≤10000000):(lW (qZ s c) X).run=some (decide (mG X c=0)):=by
 unfold lW
 rw[z6 (z0p s c hX hc hl),z6 (Vw _ hq),z7]
theorem z5x(p q:Q)(hp:qX p≤10000000)(hq:qX q≤10000000):(y5 (qR p) (qR q)).run=some (decide (p=q)):=by
 have l1:=wI p
 have l2:=wi p
 unfold y5
 rw[z6 (mg p hp),z6 (mg q hq)]
 by_cases e:p=q
 ·subst e
  rw[za (by simp),z6 (cr _ _ (by rw[vO]; omega)),za (by simp),z6 (cr _ _ (by rw[ye]; omega)),z7,decide_eq_true rfl]
  simp
 ·rw[decide_eq_false e]
  cases h1:((qR p).1==(qR q).1)with
  | false=>rw[zr,z7]
  | true =>
   rw[zD,z6 (cr _ _ (by rw[vO]; omega))]
   cases h2:((qR p).2.1==(qR q).2.1)with
   | false=>rw[zr,z7]
   | true =>
    rw[zD,z6 (cr _ _ (by rw[ye]; omega)),z7]
    cases h3:((qR p).2.2.1==(qR q).2.2.1)with
    | false=>rfl
    | true =>
     refine absurd (z2v (p:=p) (q:=q) ?_) e
     have e1:=eq_of_beq h1
     have e2:=eq_of_beq h2
     have e3:=eq_of_beq h3
     exact Prod.ext e1 (Prod.ext e2 (Prod.ext e3 rfl))
theorem NI{v:zB}(hv:kv v){X:List Rat}(hX:XOk X)(e:Expr)(d:Nat)(ho:vf d e=true)(ha:allOk e)(hn:xU e≤1000)(h0:(vS v e).2=0):(oc e v X).run=some (qR (mG X (vS v e).1),(0:Int)):=by
 unfold oc
 refine jG (fun x:Expr×zB×List Rat=>(∃ d,vf d x.1=true)∧allOk x.1∧xU x.1≤1000∧x.2.1=v∧x.2.2=X∧(vS v x.1).2=0) (fun x=>xU x.1) (fun x=>(qR (mG X (vS v x.1).1),(0:Int))) (fun x hx g hg => ?_) (x:=(e,(v,X))) ⟨⟨d,ho⟩,ha,hn,rfl,rfl,h0⟩
 obtain⟨e,v',X'⟩:=x
 obtain⟨⟨d,ho⟩,ha,hn,E2,hX',h0⟩:=hx
 dsimp only at ho ha hn E2 hX' h0 ⊢
 subst E2 hX'
 have jm:=Yh hv hX (xU e) e d (Nat.le_refl _) ho ha h0
 cases e with | mk k n s l =>
 unfold fm
 rw[show Expr.kind (.mk k n s l)=k from rfl,show Expr.kids (.mk k n s l)=l from rfl,show Expr.num (.mk k n s l)=n from rfl,show Expr.name (.mk k n s l)=s from rfl]
 rcases mM ho with rfl | rfl | ⟨rfl,a,rfl,V3⟩ | ⟨hk,a,b,rfl,V3,OY⟩
 ·rw[za (by rfl),z6 (xA n (xM ha.1 (by omega))),z7,xk,mv,if_pos rfl,tZ X' rfl]
 ·rw[mv,if_neg (by decide),if_pos rfl]at h0
  have hN:=ZH hv s
  have hz:=E1 hv s
  rw[mv,if_neg (by decide),if_pos rfl]
  generalize eQ v' s=A at *
  obtain⟨A1,A2⟩:=A
  dsimp only at h0
  subst h0
  rw[uT]at hN
  have hzl:A1.1.length≤1:=hz.len
  rw[z8 (by rfl),za (by rfl),z6 hN]
  dsimp only
  rw[z6 (z0p 0 A1 hX (vU hz.sz (by omega)) (by omega)),z7]
 ·obtain⟨ea,eq⟩:=zbq (by decide) (by decide) h0
  rw[sO]at hn
  have hr:=hg (a,(v',X')) ⟨⟨_,V3⟩,ha.2.1,by show xU a≤1000; omega,rfl,rfl,ea⟩ (by show xU a<xU (.mk 7 n s [a]); rw[sO]; omega)
  have ka:=Yh hv hX (xU a) a (d+1) (Nat.le_refl _) V3 ha.2.1 ea
  dsimp only at hr
  rw[eq,Q3,z8 (by rfl),z8 (by rfl),zc ⟨by omega,by simp⟩,show nth [a] (0:Int) (zb .expr)=a from rfl,z6 hr]
  dsimp only
  have hN:=W1 (qR (mG X' (vS v' a).1)) (xM (qF (by omega:qX (mG X' (vS v' a).1)≤1000000)) (by omega))
  rw[xX]at hN
  rw[z8 (by rfl),za (by rfl),z6 hN,z7,show -1*mG X' (vS v' a).1 = -mG X' (vS v' a).1 by grind]
 ·obtain⟨ea,eb,eq,ej⟩:=zcC (by omega) (by omega) h0
  obtain⟨j1,j2⟩:=Dm X' ej
  rw[iU]at hn
  have hra:=hg (a,(v',X')) ⟨⟨_,V3⟩,ha.2.1,by show xU a≤1000; omega,rfl,rfl,ea⟩ (by show xU a<xU (.mk k n s [a,b]); rw[iU]; omega)
  have hrb:=hg (b,(v',X')) ⟨⟨_,OY⟩,ha.2.2.1,by show xU b≤1000; omega,rfl,rfl,eb⟩ (by show xU b<xU (.mk k n s [a,b]); rw[iU]; omega)
  have ka:=Yh hv hX (xU a) a (d+1) (Nat.le_refl _) V3 ha.2.1 ea
  have kb:=Yh hv hX (xU b) b (d+1) (Nat.le_refl _) OY ha.2.2.1 eb
  dsimp only at hra hrb
  have k1:(k==1)=false:=by rw[beq_eq_false_iff_ne]; omega
  have k2:(k==2)=false:=by rw[beq_eq_false_iff_ne]; omega
  have k7:(k==7)=false:=by rw[beq_eq_false_iff_ne]; omega
  rw[eq,j1,z8 k1,z8 k2,zc ⟨by omega,by simp⟩,show nth [a,b] (0:Int) (zb .expr)=a from rfl,show nth [a,b] (1:Int) (zb .expr)=b from rfl,z6 hra]
  dsimp only
  rw[z8 (by rfl),z8 k7,zc ⟨by omega,by simp⟩,z6 hrb]
  dsimp only
  rw[z8 (by rfl)]
  generalize mG X' (vS v' a).1=A at *
  generalize mG X' (vS v' b).1=B at *
  have rA:qS 10000000 (qR A):=qF (by omega)
  have rB:qS 10000000 (qR B):=qF (by omega)
  unfold opQ
  rcases hk with rfl | rfl | rfl | rfl
  ·rw[za (by rfl),z6 (oC A B (by omega) (by omega)),z7,if_pos rfl]
  ·have hS:=BD (qR A) (qR B) rA rB
   rw[xX,xX]at hS
   rw[z8 (by rfl),za (by rfl),z6 hS,z7,if_neg (by decide),if_pos rfl]
  ·rw[z8 (by rfl),z8 (by rfl),za (by rfl),z6 (Qb A B (by omega) (by omega)),z7,if_neg (by decide),if_neg (by decide),if_pos rfl]
  ·obtain⟨z,hD⟩:=Xv (qR A) (qR B) rA rB
   have hB:B≠0:=j2 ⟨by decide,by decide,by decide⟩
   rw[xX,xX,if_neg hB,decide_eq_true hB]at hD
   rw[z8 (by rfl),z8 (by rfl),z8 (by rfl),z6 hD]
   dsimp only
   rw[z8 (by rfl),z7,if_neg (by decide),if_neg (by decide),if_neg (by decide)]
theorem z7q{v:zB}{e:Expr}(h:(eO v e).2=0):Pf e=true∧eO v e=vS v e:=by
 unfold eO at h ⊢
 by_cases c:Pf e=true
 ·rw[if_pos c]; exact⟨c,rfl⟩
 ·rw[if_neg c]at h; cases h
theorem Gu{v:zB}(hv:kv v){X:List Rat}(hX:XOk X)(e:Expr)(ha:allOk e)(hb:bkE e≤1000000000)(hn:xU e≤100000)(h0:(eO v e).2=0):(iQ e v X).run=some (qR (mG X (eO v e).1),(0:Int))∧qX (mG X (eO v e).1)≤100000:=by
 obtain⟨hi,eq⟩:=z7q h0
 obtain⟨h1,h2⟩:=BA hi
 rw[eq]at h0 ⊢
 have hs:=Yh hv hX (xU e) e 0 (Nat.le_refl _) h1 ha h0
 refine⟨?_,by omega⟩
 unfold iQ
 rw[z6 (sU e ha hb hn),z8 (by rw[hi]; rfl),z6 (NI hv hX e 0 h1 ha (by omega) h0)]
 dsimp only
 rw[z8 (by rfl),z7]
theorem z1Z{v:zB}{l r:Expr}(X:List Rat)(h:(j9 v l r).2=0):(eO v l).2=0∧(eO v r).2=0∧mG X (j9 v l r).1=mG X (eO v l).1-mG X (eO v r).1:=by
 unfold j9 at *
 by_cases c:(eO v l).2≠0
 ·rw[if_pos c]at h; exact absurd h c
 ·rw[if_neg c]at h ⊢
  by_cases c2:(eO v r).2≠0
  ·rw[if_pos c2]at h; exact absurd h c2
  ·rw[if_neg c2,Fu,Q3]
   exact⟨Classical.not_not.1 c,Classical.not_not.1 c2,by grind⟩
theorem QI(f:Form)(ps:List Rat)(on:List Bool)(X:List Rat)(hw:wf zK f)(hb:bk zK f≤1048576)(hp:∀ x∈ps,zw x.2.1∧zw x.2.2.1)(hl:ps.length≤1048576)(hx:∀ x∈X,zw x.2.1∧zw x.2.2.1)(IE:X.length≤1048576):(c7 f ps on X).run=some true:=by
 obtain⟨b1,r1,f1⟩:=looked9 f hw hb
 obtain⟨b2,r2,f2⟩:=GO ps hp (by omega)
 obtain⟨b3,r3,f3⟩:=GO X hx (by omega)
 unfold c7
 have head:(T.bind (cH f) fun r =>
   .ite r
    (.ret true)
    (T.bind (gS ps) fun r1 =>
     .ite r1
      (.ret true)
      (T.bind (gS X) fun r2 =>
       .ite r2
        (.ret true)
        (.ret (decide ((30:Int)<(Nat.cast (List.length on):Int)))))):T (Bool)).run=some (b1||(b2||(b3||decide ((30:Int)<(on.length:Int))))):=by
  rw[z6 r1]
  cases b1 with
  | true=>rfl
  | false =>
   rw[zr,z6 r2]
   cases b2 with
   | true=>rfl
   | false =>
    rw[zr,z6 r3]
    cases b3<;>rfl
 rw[z6 head]
 cases b1 with
 | true=>rfl
 | false =>
 cases b2 with
 | true=>rfl
 | false =>
 cases b3 with
 | true=>rfl
 | false =>
 cases Oh:decide ((30:Int)<(on.length:Int))with
 | true=>rfl
 | false =>
  have h:=f1 rfl
  have Eh:=f2 rfl
  have hX:XOk X:=f3 rfl
  have hn:=h.n
  show(T.ite false _ _).run=_
  rw[zr,z6 (E5 f h ps on Eh)]
  cases q:PW f ps on with
  | er n e =>
   have hR:=Od f h ps on Eh
   have he:=z6X q
   rw[q]at hR
   dsimp only[Sr]
   rw[za (by simpa using he),z6 hR]
   dsimp only[z4T]
   rw[za (by simp),z6 KK,z7]
  | ok l =>
   obtain⟨xR,XA,hol,hr,hbn⟩:=z7Q q
   have hv:=Pw h XA Eh
   have hlk:=B6 h hv hr
   have hsm:=Gn hbn
   have hat:=z0q hr
   have cl:=sI l
   have rl:=sE l
   dsimp only[Sr]
   rw[z8 (by rfl),z6 (DW f ps h (by omega)),z8 (by rw[cl,rl]; simp)]
   have key:∀ (m k:Nat),k+m=l.length→(bK X f ((k:Int),((uG l,(uK l,())),vF f ps))).run=some (.inl ((uG l,(uK l,())),vF f ps)):=by
    intro m
    induction m with
    | zero =>
     intro k hk
     have:k=l.length:=by omega
     subst this
     refine ql ?_
     unfold jP
     dsimp only
     rw[z8 (by rw[cl]; exact xo _),z7]
    | succ m ih =>
     intro k hk
     have h1:k<l.length:=by omega
     have hlen:=hlk.len
     refine(qK (s':=(((k+1:Nat):Int),((uG l,(uK l,())),vF f ps))) ?_).trans (ih (k+1) (by omega))
     obtain⟨s1,s2,s3,s4⟩:=hlk.sz _ (List.getElem_mem h1)
     have hs:=hsm _ (List.getElem_mem h1)
     obtain⟨j,hj,e1,e0⟩:=hat _ (List.getElem_mem h1)
     have e3:l[k].2.2=(j:Int):=by rw[e1]
     have ec:l[k].1=(j9 (vF f ps) f.2.2.2.2.1[j].2.2.2.1 f.2.2.2.2.1[j].2.2.2.2.1).1:=by rw[e1]
     have Gj:=Wu h _ (List.getElem_mem hj)
     obtain⟨oL,oR,eA⟩:=z1Z X e0
     have hsl:=(LB hv _ _ Gj.a1 Gj.a2).len
     obtain⟨vL,zL⟩:=Gu hv hX _ Gj.a1 Gj.b1 Gj.n1 oL
     obtain⟨vR,zR⟩:=Gu hv hX _ Gj.a2 Gj.b2 Gj.n2 oR
     have zA:=CV (mG X (eO (vF f ps) f.2.2.2.2.1[j].2.2.2.1).1) (mG X (eO (vF f ps) f.2.2.2.2.1[j].2.2.2.2.1).1)
     have hH:=Nr l[k].2.1 l[k].1 hX (vU hs (by omega)) (by rw[ec]; omega) (by rw[ec,eA]; omega)
     rw[ec,eA]at hH
     unfold jP
     dsimp only
     rw[za (by rw[cl]; exact qQ h1),z3H l h1,zc ⟨zo (by omega),fun _=>zo (by omega)⟩,e3,z8 (show(decide ((j:Int)<0)||decide ((f.2.2.2.2.1.length:Int)≤(j:Int)))=false by rw[decide_eq_false (by omega:¬ ((j:Int)<0)),decide_eq_false (by omega:¬ ((f.2.2.2.2.1.length:Int)≤(j:Int)))]; rfl),zc (zo (by omega)),zc (zo hj),xh hj,gw,gw,z6 vL]
     dsimp only
     rw[z6 vR]
     dsimp only
     have hS:=z5x (mG X (eO (vF f ps) f.2.2.2.2.1[j].2.2.2.1).1) (mG X (eO (vF f ps) f.2.2.2.2.1[j].2.2.2.2.1).1) (by omega) (by omega)
     have hd:decide (mG X (eO (vF f ps) f.2.2.2.2.1[j].2.2.2.1).1-mG X (eO (vF f ps) f.2.2.2.2.1[j].2.2.2.2.1).1=0)=decide (mG X (eO (vF f ps) f.2.2.2.2.1[j].2.2.2.1).1=mG X (eO (vF f ps) f.2.2.2.2.1[j].2.2.2.2.1).1):=decide_eq_decide.2 ⟨fun q=>by grind,fun q=>by grind⟩
     rw[hd]at hH
     refine(z6 (a:=(false,((uG l,(uK l,())),(vF f ps,(f.2.2.2.2.1[j],(qR (mG X (eO (vF f ps) f.2.2.2.2.1[j].2.2.2.1).1),qR (mG X (eO (vF f ps) f.2.2.2.2.1[j].2.2.2.2.1).1))))))) ?_ _).trans ?_
     ·rw[z8 (by rfl),z8 (by rfl),zc (zo (by omega)),z3Q l h1,ec,z6 hH,z6 hS,z7,beq_self_eq_true]
      rfl
     ·dsimp only
      rw[zr,z7,vA k _ h1 (by omega)]
   have key:(bK X f ((0:Int),((uG l,(uK l,())),vF f ps))).run=_:=key l.length 0 (by omega)
   rw[z6 key,Sum.elim_inl]
   rw[z6 KK,z7]
theorem QK(x:Yv [zK,.sl zt,.sl .bool,.sl zt])(hw:wfL [zK,.sl zt,.sl .bool,.sl zt] x)(hb:bkL [zK,.sl zt,.sl .bool,.sl zt] x≤1048576) :
  (c7 (D4 [zK,.sl zt,.sl .bool,.sl zt] x).1 (D4 [zK,.sl zt,.sl .bool,.sl zt] x).2.1 (D4 [zK,.sl zt,.sl .bool,.sl zt] x).2.2.1 (D4 [zK,.sl zt,.sl .bool,.sl zt] x).2.2.2).run=some true:=by
 obtain⟨f,ps,on,X,u⟩:=x
 have e:bkL [zK,.sl zt,.sl .bool,.sl zt] (f,ps,on,X,u)=bk zK f+((cj (bk zt) ps+1)+(bk (.sl .bool) on+((cj (bk zt) X+1)+0))):=rfl
 have hr:∀ x,1≤bk zt x:=fun x=>by have:bk zt x=1+((cj (bk u32) x.2.1+1)+((cj (bk u32) x.2.2.1+1)+1)):=rfl; omega
 have hl:=dL (bk zt) ps hr
 have iI:=dL (bk zt) X hr
 have h1:wf zK f:=hw.1
 have h2:∀ x∈ps,wf zt x:=hw.2.1
 have h3:∀ x∈X,wf zt x:=hw.2.2.2.1
 exact QI f ps on X h1 (by omega) (fun x hx=>HQ (h2 x hx)) (by omega) (fun x hx=>HQ (h3 x hx)) (by omega)
end Go.AM.Lf
