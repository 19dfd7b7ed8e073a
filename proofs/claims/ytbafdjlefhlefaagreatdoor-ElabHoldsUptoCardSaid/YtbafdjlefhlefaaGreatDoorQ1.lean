/-
  Plain laws of the lifted program, part 1.
-/
import Derived.Test.YtbafdjlefhlefaaGreatDoorLf1
import Derived.Test.YtbafdjlefhlefaaGreatDoorAmA
import Derived.Test.YtbafdjlefhlefaaGreatDoorAmD
import Derived.Test.YtbafdjlefhlefaaGreatDoorQ0
set_option linter.unusedVariables false
open Go.AM.T (jG jM ny oh qK ql uo xi yw z6 z7 z8 zD zG zP za zc ze zr zy)
namespace Go.AM.Lf
open PL
def val(a:Rat):Q:=qv a.1 (nv a.2.1) (nv a.2.2.1)
theorem XC(b:Bool)(n d:Nat):kZ b n d=qR (qv b n d):=by
 unfold kZ
 by_cases h:n=0∨d=0
 ·rw[if_pos h]
  rcases h with h | h
  ·subst h; rw[DA,E4]
  ·subst h; rw[U6,E4]
 ·rw[if_neg h,z7O _ _ _ (fun z=>h (.inl z)) (fun z=>h (.inr z))]
theorem xk(a:Rat):norm a=qR (val a):=XC _ _ _
theorem xX(q:Q):val (qR q)=q:=FT q
theorem qF{q:Q}{k:Nat}(h:qX q≤k):qS k (qR q) :=
 ⟨zq _,zq _,Nat.le_trans (wI q) h,Nat.le_trans (wi q) h⟩
theorem vn{a:Rat}{k:Nat}(hk:1≤k)(h:qS k a):qX (val a)≤k :=
 FA _ _ _ k hk (Nat.le_trans (zW h.1) h.2.2.1) (Nat.le_trans (zW h.2.1) h.2.2.2)
theorem z2L(n:Nat):decide ((0:Int)<((zJ n).length:Int))=decide (n≠0):=by
 refine decide_eq_decide.2 ⟨fun h z => ?_,fun h => ?_⟩
 ·subst z; rw[qz]at h; simp at h
 ·have:(zJ n).length≠0:=fun z=>h (xB.1 (List.eq_nil_of_length_eq_zero z))
  omega
theorem z3R(q:Q):(decide (q.num<0)=false→decide (q.num.natAbs≠0)=decide (0<q.num))∧(decide (q.num<0)=true→decide (0<q.num)=false):=by
 constructor
 ·intro h; have:=of_decide_eq_false h; exact decide_eq_decide.2 (by omega)
 ·intro h; have:=of_decide_eq_true h; exact decide_eq_false (by omega)
theorem W1(a:Rat)(h:qS 100000000 a):(sk a).run=some (qR (-(val a))):=by
 unfold sk
 rw[z6 (xA a h),xk,z2c]
 have ha:=z3R (val a)
 generalize val a=q at *
 rw[lY,vO,ye,z2L]
 cases c:decide (q.num<0)with
 | false=>rw[ha.1 c]; rfl
 | true=>rw[ha.2 c]; rfl
theorem db(neg:Bool)(n d:Nat)(ln:(zJ n).length≤100000000)(ld:(zJ d).length≤100000000):(cT neg (zJ n) (zJ d)).run=some (qR (qv neg n d)):=by
 have:=Vj neg (zJ n) (zJ d) (zq _) (zq _) ln ld
 rwa [zS,zS,XC]at this
theorem j8(m n:Nat)(lm:(zJ m).length≤1000000000)(ln:(zJ n).length≤1000000000):(uR (zJ m) (zJ n)).run=some (zJ (m*n)):=by
 have:=pe (zJ m) (zJ n) (zq _) (zq _) lm ln
 rwa [zS,zS]at this
theorem Bm(m n:Nat)(lm:(zJ m).length≤1000000000)(ln:(zJ n).length≤1000000000):(nc (zJ m) (zJ n)).run=some (zJ (m+n)):=by
 have:=X0 (zJ m) (zJ n) (zq _) (zq _) lm ln
 rwa [zS,zS]at this
theorem X5(m n:Nat)(h:n≤m)(lm:(zJ m).length≤1000000000)(ln:(zJ n).length≤1000000000):(iL (zJ m) (zJ n)).run=some (zJ (m-n),true):=by
 have:=XZ (zJ m) (zJ n) (zq _) (zq _) lm ln
 rwa [zS,zS,if_neg (by omega)]at this
theorem Hm(m n:Nat)(lm:(zJ m).length≤1000000000)(ln:(zJ n).length≤1000000000):(il (zJ m) (zJ n)).run=some (iO m n):=by
 have:=nT (zJ m) (zJ n) (zq _) (zq _) lm ln
 rwa [zS,zS]at this
theorem X3(a b:Rat)(ha:qS 10000000 a)(hb:qS 10000000 b):(k8 a b).run=some (qR (val a+val b)):=by
 unfold k8
 rw[z6 (xA a (xM ha (by omega))),z6 (xA b (xM hb (by omega))),xk,xk]
 have la:=vn (by omega) ha
 have lb:=vn (by omega) hb
 rw[TU]
 generalize val a=p at *
 generalize val b=q at *
 simp only[lY,vO,ye]
 have l1:=wI p; have l2:=wi p; have l3:=wI q; have l4:=wi q
 have m1:=xl p.num.natAbs q.den
 have m2:=xl q.num.natAbs p.den
 have m3:=xl p.den q.den
 rw[z6 (j8 _ _ (by omega) (by omega)),z6 (j8 _ _ (by omega) (by omega)),z6 (j8 _ _ (by omega) (by omega))]
 have m4:=sx (p.num.natAbs*q.den) (q.num.natAbs*p.den) 20000000 (by omega) (by omega)
 generalize p.num.natAbs*q.den=x at *
 generalize q.num.natAbs*p.den=y at *
 generalize p.den*q.den=z at *
 by_cases c:decide (p.num<0)=decide (q.num<0)
 ·rw[za (by simp[c]),z6 (Bm _ _ (by omega) (by omega)),z6 (db _ _ _ (by omega) (by omega)),z7,eI,L5,c]
 ·rw[z8 (by simpa using c),z6 (Hm _ _ (by omega) (by omega))]
  by_cases g:y≤x
  ·have e:decide ((0:Int)≤iO x y)=true:=decide_eq_true (by unfold iO; rw[if_neg (by omega)]; split<;>omega)
   have:=cd (Nat.sub_le x y)
   rw[za e,z6 (X5 _ _ g (by omega) (by omega))]
   simp only
   rw[z6 (db _ _ _ (by omega) (by omega)),z7,eI,Jb _ _ _ _ c g]
  ·have e:decide ((0:Int)≤iO x y)=false:=decide_eq_false (by unfold iO; rw[if_pos (by omega)]; omega)
   have:=cd (Nat.sub_le y x)
   rw[z8 e,z6 (X5 _ _ (by omega) (by omega) (by omega))]
   simp only
   rw[z6 (db _ _ _ (by omega) (by omega)),z7,eI,Jb _ _ _ _ (fun h=>c h.symm) (by omega:x≤y),Int.add_comm]
theorem BD(a b:Rat)(ha:qS 10000000 a)(hb:qS 10000000 b):(XQ a b).run=some (qR (val a-val b)):=by
 unfold XQ
 have lb:=vn (by omega) hb
 have:=X3 a (qR (-(val b))) ha (qF (by rw[Ya]; exact lb))
 rw[xX,← Rat.sub_eq_add_neg]at this
 rw[z6 (W1 b (xM hb (by omega))),z6 this,z7]
def ME(b:Bool):zf:=if b=true then[45]else[]
def P8(s:zf)(n:Nat):zf:=if n=0 then s else
 (kC [48] (n+1-s.length)++s).take ((kC [48] (n+1-s.length)++s).length-n)++[46]++(kC [48] (n+1-s.length)++s).drop ((kC [48] (n+1-s.length)++s).length-n)
theorem QV(k:Nat):(kC [48] k).length=k:=by
 induction k with
 | zero=>rfl
 | succ k ih=>simp[kC,ih]
theorem mY(s:zf)(l h:Nat):bS (l:Int) (h:Int) s=(s.take h).drop l:=by unfold bS; simp
theorem CX(s:zf)(n:Nat)(hn:n≤1000)(hs:s.length≤1000000000):(lO s (n:Int)).run=some (P8 s n):=by
 unfold lO P8
 by_cases h:n=0
 ·subst h; rw[za (by rfl),z7,if_pos rfl]
 ·rw[z8 (by simp; omega),if_neg h]
  have e1:wc 0 (zu (zu ((n:Int)+1)-(s.length:Int)))=((n+1-s.length:Nat):Int):=by
   rw[i1 n (by omega),zQ (by omega) (by omega)]; unfold wc; split<;>omega
  have zey:(strings_Repeat [48] ((n+1-s.length:Nat):Int)).run=some (kC [48] (n+1-s.length)):=by
   unfold strings_Repeat
   rw[zc ⟨by omega,by omega,by simp; omega⟩,z7,Int.toNat_natCast]
  rw[e1,z6 zey]
  have hl:=QV (n+1-s.length)
  simp only[cat]
  generalize hR:kC [48] (n+1-s.length)++s=t
  have htl:t.length=(n+1-s.length)+s.length:=by rw[← hR,List.length_append,hl]
  have e2:zu ((t.length:Int)-(n:Int))=((t.length-n:Nat):Int):=by rw[zQ (by omega) (by omega)]; omega
  have c0:bS 0 ((t.length-n:Nat):Int) t=t.take (t.length-n):=by have:=mY t 0 (t.length-n); simpa using this
  have c1:bS ((t.length-n:Nat):Int) (t.length:Int) t=t.drop (t.length-n):=by rw[mY,List.take_length]
  simp only[e2,c0,c1]
  rw[zG _ (by omega),oh _ (by omega) (by omega) (by omega),zG _ (by simp; omega),oh _ (by omega) (by omega) (by omega),zG _ (by simp; omega),z7]
theorem DC(a:Rat):(sJ a).run=some (ME a.1):=by
 unfold sJ ME; rw[yw]; split<;>rfl
theorem mq(b:Bool):(fG b).run=some (ME b):=by
 unfold fG ME; rw[yw]; split<;>rfl
theorem tB(b:Bool):(ME b).length≤1:=by unfold ME; split<;>simp
theorem iC(n k:Nat)(h:(zJ n).length≤k):(pr n).length≤18*k+1:=by
 unfold pr
 split
 ·simp
 ·obtain⟨z,hz⟩:=I4 n
  have h1:=UR n k (qe.1 h)
  have h2:=congrArg List.length hz
  rw[List.length_append]at h2
  rw[EZ]
  simp only[qV,List.length_map,List.length_reverse]
  omega
theorem MC(s:zf)(n:Nat):(P8 s n).length≤s.length+n+2:=by
 unfold P8
 split
 ·omega
 ·have:=QV (n+1-s.length)
  simp[this]; omega
theorem OE(k:Nat)(s:zf):kC [48] k++([48]++s)=kC [48] (k+1)++s:=by
 induction k with
 | zero=>rfl
 | succ k ih=>simp only[kC,List.append_assoc]at ih ⊢; rw[ih]
theorem EM(n:List Int)(hn:zw n)(ln:n.length≤1000000)(least:Nat)(hl:least≤100000):(lB n (least:Int)).run=some (kC [48] (least-(pr (nv n)).length)++pr (nv n)):=by
 have XA:=iC (nv n) 1000000 (Nat.le_trans (zW hn) ln)
 have loop:=uo (r:=kJ (least:Int)) (fun s:zf=>s.length≤100000000) (fun s=>least-s.length) (fun s=>kC [48] (least-s.length)++s) ?_ (s:=pr (nv n)) (by omega)
 ·have KW:(sd (least:Int) (pr (nv n))).run=_:=loop
  unfold lB
  rw[z6 (iX n hn ln),z6 KW,z7]
 ·intro s hs
  by_cases h:s.length<least
  ·left
   refine⟨[48]++s,?_,by simp; omega,by simp; omega,?_⟩
   ·unfold kJ
    rw[za (by simpa using h),zG _ (by simp; omega),z7]; rfl
   ·rw[show least-s.length=(least-([48]++s).length)+1 by simp; omega,← OE]
  ·right
   unfold kJ
   rw[z8 (by simpa using h),z7,show least-s.length=0 by omega]; rfl
theorem z7a(n:Nat):1≤(pr n).length:=by
 unfold pr
 split
 ·simp
 ·rename_i h
  rw[tJ h]; simp
theorem ON(neg:Bool)(n:Nat)(k:Nat)(hk:k≤1000)(hn:(zJ n).length≤100000):(oJ neg (zJ n) (k:Int)).run=some (ME (neg&&decide (n≠0))++P8 (pr n) k):=by
 have hd:=EM (zJ n) (zq n) (by omega) (k+1) (by omega)
 rw[zS]at hd
 have XA:=iC n 100000 hn
 have hpp:=z7a n
 have hl:=QV (k+1-(pr n).length)
 have hsg:decide ((0:Int)<((zJ n).length:Int))=decide (n≠0):=by
  by_cases c:n=0
  ·subst c; rw[qz]; rfl
  ·have:(zJ n).length≠0:=fun h=>c (xB.1 (List.eq_nil_of_length_eq_zero h))
   rw[decide_eq_true (by omega),decide_eq_true c]
 unfold oJ
 rw[i1 k (by omega),z6 hd,hsg]
 have hpt:(bif decide ((0:Int)<(k:Int))then cat (cat (bS 0 (zu (((kC [48] (k+1-(pr n).length)++pr n).length:Int)-(k:Int))) (kC [48] (k+1-(pr n).length)++pr n)) [46]) (bS (zu (((kC [48] (k+1-(pr n).length)++pr n).length:Int)-(k:Int))) ((kC [48] (k+1-(pr n).length)++pr n).length:Int) (kC [48] (k+1-(pr n).length)++pr n))else(kC [48] (k+1-(pr n).length)++pr n))=P8 (pr n) k:=by
  unfold P8
  by_cases c:k=0
  ·subst c
   rw[show decide ((0:Int)<((0:Nat):Int))=false from rfl,cond_false,if_pos rfl,show 0+1-(pr n).length=0 by omega]; rfl
  ·rw[decide_eq_true (by omega),cond_true,if_neg c]
   generalize hR:kC [48] (k+1-(pr n).length)++pr n=t
   have htl:t.length=(k+1-(pr n).length)+(pr n).length:=by rw[← hR,List.length_append,hl]
   have e2:zu ((t.length:Int)-(k:Int))=((t.length-k:Nat):Int):=by rw[zQ (by omega) (by omega)]; omega
   have c0:bS 0 ((t.length-k:Nat):Int) t=t.take (t.length-k):=by have:=mY t 0 (t.length-k); simpa using this
   have c1:bS ((t.length-k:Nat):Int) (t.length:Int) t=t.drop (t.length-k):=by rw[mY,List.take_length]
   rw[e2,c0,c1]; rfl
 have Wx:=MC (pr n) k
 rw[hpt]
 generalize hR:kC [48] (k+1-(pr n).length)++pr n=t
 have htl:t.length=(k+1-(pr n).length)+(pr n).length:=by rw[← hR,List.length_append,hl]
 have e2:zu ((t.length:Int)-(k:Int))=((t.length-k:Nat):Int):=by rw[zQ (by omega) (by omega)]; omega
 rw[zc (fun Bw=>by
  have c0:bS 0 ((t.length-k:Nat):Int) t=t.take (t.length-k):=by have:=mY t 0 (t.length-k); simpa using this
  have c1:bS ((t.length-k:Nat):Int) (t.length:Int) t=t.drop (t.length-k):=by rw[mY,List.take_length]
  rw[e2,c0,c1]
  refine⟨⟨by omega,by omega,by omega⟩,by simp; omega,⟨by omega,by omega,by omega⟩,by simp[cat]; omega⟩)]
 cases neg with
 | true =>
  have OZ:=tB (decide (n≠0))
  rw[zD,z6 (mq _),zG _ (by omega),z7,Bool.true_and]; rfl
 | false =>
  have OZ:=tB false
  rw[zr,z6 (mq _),zG _ (by omega),z7,Bool.false_and]; rfl
def xS(neg:Bool)(N D:Nat):Nat→Nat→zf×Bool
 | _,0=>([],false)
 | k,f+1=>if N*10 ^ k % D=0 then(ME neg++P8 (pr (N*10 ^ k / D)) k,true)else xS neg N D (k+1) f
theorem de(n:Nat):(((zJ n).length:Int)==0)=decide (n=0):=by
 by_cases c:n=0
 ·subst c; rw[qz]; rfl
 ·have:(zJ n).length≠0:=fun h=>c (xB.1 (List.eq_nil_of_length_eq_zero h))
  rw[decide_eq_false c]; simpa using this
theorem ZN(a:Rat)(h:qS 1000 a):(nA a).run=some (xS (norm a).1 (nv (norm a).2.1) (nv (norm a).2.2.1) 0 61):=by
 have BL:=oZ (by omega) h
 have hD:=Y5 a.1 (nv a.2.1) (nv a.2.2.1)
 have TZ:=ji a (xM h (by omega))
 unfold nA
 rw[z6 TZ]
 change nv (norm a).2.2.1≠0 at hD
 clear TZ
 generalize norm a=v at *
 obtain⟨hn,hd,ln,ld⟩:=BL
 have loop:=uo (r:=y9) (fun s:Int×Rat=>∃ k:Nat,s=((k:Int),v)∧k≤61) (fun s=>61-s.1.toNat)
  (fun s=>if(xS v.1 (nv v.2.1) (nv v.2.2.1) s.1.toNat (61-s.1.toNat)).2=true then .inr ((xS v.1 (nv v.2.1) (nv v.2.2.1) s.1.toNat (61-s.1.toNat)).1,true,v)else .inl v) ?_ (s:=(0,v)) ⟨0,rfl,by omega⟩
 ·have KW:(Wc (0,v)).run=_:=loop
  rw[z6 KW]
  have hex:∀ f k,(xS v.1 (nv v.2.1) (nv v.2.2.1) k f).2=false→(xS v.1 (nv v.2.1) (nv v.2.2.1) k f).1=[]:=by
   intro f
   induction f with
   | zero=>intro k _; rfl
   | succ f ih =>
    intro k hk
    unfold xS at hk ⊢
    split at hk
    ·cases hk
    ·rename_i c; rw[if_neg c]; exact ih _ hk
  have h2:=hex 61 0
  simp only[Int.toNat_zero,Nat.sub_zero]
  generalize xS v.1 (nv v.2.1) (nv v.2.2.1) 0 61=z at *
  obtain⟨z1,z2⟩:=z
  cases z2 with
  | true=>simp
  | false=>simp at h2 ⊢; exact h2
 ·rintro _ ⟨k,rfl,hk⟩
  simp only[Int.toNat_natCast]
  by_cases qu:k<61
  ·have z60:=Xq k
   have hm:=rJ v.2.1 (zJ (10 ^ k)) hn (zq _) (by omega) (by omega)
   rw[zS]at hm
   have hml:=Nat.le_trans (LH (nv v.2.1) (10 ^ k)) (Nat.add_le_add (zW hn) z60)
   have Py:=bU (zJ (nv v.2.1*10 ^ k)) v.2.2.1 (zq _) hd (by omega) (by omega)
   rw[zS,if_neg hD]at Py
   have hq:=j7 (Nat.div_le_self (nv v.2.1*10 ^ k) (nv v.2.2.1))
   have hpr:=mC (zJ (nv v.2.1*10 ^ k / nv v.2.2.1)) (zq _) (by omega)
   rw[zS]at hpr
   have XA:=iC (nv v.2.1*10 ^ k / nv v.2.2.1) 2000 (by omega)
   have Wx:=MC (pr (nv v.2.1*10 ^ k / nv v.2.2.1)) k
   have hsl:=tB v.1
   have ef:61-k=(61-(k+1))+1:=by omega
   rw[ef,xS]
   by_cases c:nv v.2.1*10 ^ k % nv v.2.2.1=0
   ·right
    rw[if_pos c,if_pos rfl]
    unfold y9
    rw[za (decide_eq_true (by omega)),z6 (VE k (by omega)),z6 hm,z6 Py]
    simp only
    rw[za (by rw[de]; exact decide_eq_true c),z6 (DC v),z6 hpr,z6 (CX _ k (by omega) (by omega)),zG _ (by omega),z7]; rfl
   ·left
    rw[if_neg c]
    refine⟨(((k+1:Nat):Int),v),?_,⟨k+1,rfl,by omega⟩,by simp only[Int.toNat_natCast]; omega,by first | trivial | simp only[Int.toNat_natCast]⟩
    unfold y9
    rw[za (decide_eq_true (by omega)),z6 (VE k (by omega)),z6 hm,z6 Py]
    simp only
    rw[z8 (by rw[de]; exact decide_eq_false c),z7,i1 k (by omega)]
  ·right
   have:k=61:=by omega
   subst this
   unfold y9
   rw[z8 (decide_eq_false (by omega)),z7]; rfl
theorem sZ(a:Rat)(h:qS 1000 a):(cy a).run=some (xS (norm a).1 (nv (norm a).2.1) (nv (norm a).2.2.1) 0 61):=by
 have BL:=oZ (by omega) h
 have hD:=Y5 a.1 (nv a.2.1) (nv a.2.2.1)
 have hN:=SJ a.1 (nv a.2.1) (nv a.2.2.1)
 have TZ:=xA a (xM h (by omega))
 unfold cy
 rw[z6 TZ]
 change nv (norm a).2.2.1≠0 at hD
 change (norm a).1=true→nv (norm a).2.1≠0 at hN
 clear TZ
 generalize norm a=v at *
 obtain⟨hn,hd,ln,ld⟩:=BL
 have loop:=uo (r:=jA) (fun s:List Int×Int×Rat=>∃ k:Nat,s=(zJ (10 ^ k),(k:Int),v)∧k≤61) (fun s=>61-s.2.1.toNat)
  (fun s=>if(xS v.1 (nv v.2.1) (nv v.2.2.1) s.2.1.toNat (61-s.2.1.toNat)).2=true then .inr ((xS v.1 (nv v.2.1) (nv v.2.2.1) s.2.1.toNat (61-s.2.1.toNat)).1,true,v)else .inl v) ?_ (s:=([1],0,v)) ⟨0,by rw[Nat.pow_zero,lG]; rfl,by omega⟩
 ·have KW:(ZS ([1],0,v)).run=_:=loop
  rw[z6 KW]
  have hex:∀ f k,(xS v.1 (nv v.2.1) (nv v.2.2.1) k f).2=false→(xS v.1 (nv v.2.1) (nv v.2.2.1) k f).1=[]:=by
   intro f
   induction f with
   | zero=>intro k _; rfl
   | succ f ih =>
    intro k hk
    unfold xS at hk ⊢
    split at hk
    ·cases hk
    ·rename_i c; rw[if_neg c]; exact ih _ hk
  have h2:=hex 61 0
  simp only[Int.toNat_zero,Nat.sub_zero]
  generalize xS v.1 (nv v.2.1) (nv v.2.2.1) 0 61=z at *
  obtain⟨z1,z2⟩:=z
  cases z2 with
  | true=>simp
  | false=>simp at h2 ⊢; exact h2
 ·rintro _ ⟨k,rfl,hk⟩
  simp only[Int.toNat_natCast]
  by_cases qu:k<61
  ·have z60:=Xq k
   have hm:=pe v.2.1 (zJ (10 ^ k)) hn (zq _) (by omega) (by omega)
   rw[zS]at hm
   have hml:=Nat.le_trans (LH (nv v.2.1) (10 ^ k)) (Nat.add_le_add (zW hn) z60)
   have Py:=gu (zJ (nv v.2.1*10 ^ k)) v.2.2.1 (zq _) hd (by omega) (by omega)
   rw[zS,if_neg hD]at Py
   have hq:=j7 (Nat.div_le_self (nv v.2.1*10 ^ k) (nv v.2.2.1))
   have hpt:=ON v.1 (nv v.2.1*10 ^ k / nv v.2.2.1) k (by omega) (by omega)
   have h10:=pe (zJ (10 ^ k)) [10] (zq _) (by intro x hx; simp at hx; omega) (by omega) (by simp)
   rw[zS,show nv [10]=10 from rfl,← Nat.pow_succ]at h10
   have ef:61-k=(61-(k+1))+1:=by omega
   rw[ef,xS]
   by_cases c:nv v.2.1*10 ^ k % nv v.2.2.1=0
   ·right
    have hsg:(v.1&&decide (nv v.2.1*10 ^ k / nv v.2.2.1≠0))=v.1:=by
     cases hv:v.1 with
     | false=>rfl
     | true =>
      have h1:=hN hv
      have h2:nv v.2.1*10 ^ k≠0:=Nat.mul_ne_zero h1 (Nat.pos_iff_ne_zero.1 (Nat.pow_pos (by omega)))
      have h3:nv v.2.1*10 ^ k / nv v.2.2.1≠0:=by
       intro z
       have:=Nat.div_add_mod (nv v.2.1*10 ^ k) (nv v.2.2.1)
       rw[z,c]at this
       exact h2 this.symm
      rw[decide_eq_true h3]; rfl
    rw[hsg]at hpt
    rw[if_pos c,if_pos rfl]
    unfold jA
    rw[za (decide_eq_true (by omega)),z6 hm,z6 Py]
    simp only
    rw[za (by rw[de]; exact decide_eq_true c),z6 hpt,z7]
   ·left
    rw[if_neg c]
    refine⟨(zJ (10 ^ (k+1)),((k+1:Nat):Int),v),?_,⟨k+1,rfl,by omega⟩,by simp only[Int.toNat_natCast]; omega,by first | trivial | simp only[Int.toNat_natCast]⟩
    unfold jA
    rw[za (decide_eq_true (by omega)),z6 hm,z6 Py]
    simp only
    rw[z8 (by rw[de]; exact decide_eq_false c),z6 h10,z7,i1 k (by omega)]
  ·right
   have:k=61:=by omega
   subst this
   unfold jA
   rw[z8 (decide_eq_false (by omega)),z7]; rfl
def eB(a:Rat):zf:=if nv a.2.2.1=1 then ME a.1++pr (nv a.2.1)else ME a.1++pr (nv a.2.1)++([47]++pr (nv a.2.2.1))
theorem YA(a:Rat)(h:qS 1000 a):(nt a).run=some (eB (norm a)):=by
 have BL:=oZ (by omega) h
 have TZ:=ji a (xM h (by omega))
 unfold nt
 rw[z6 TZ]
 clear TZ
 generalize norm a=v at *
 obtain⟨hn,hd,ln,ld⟩:=BL
 have Pe:=mC v.2.1 hn (by omega)
 have hpd:=mC v.2.2.1 hd (by omega)
 have TG:=iC (nv v.2.1) 1000 (Nat.le_trans (zW hn) ln)
 have iI:=iC (nv v.2.2.1) 1000 (Nat.le_trans (zW hd) ld)
 have hsl:=tB v.1
 have h1:(jV 1).run=some (zJ 1):=kL 1 (by omega)
 have hc:=lM v.2.2.1 (zJ 1) hd (zq _) (by omega) (by rw[lG]; simp)
 rw[zS]at hc
 rw[z6 (DC v),z6 Pe,zG _ (by omega),z6 h1,z6 hc]
 unfold eB iO
 by_cases c:nv v.2.2.1=1
 ·rw[c,if_pos rfl,if_neg (by omega),if_neg (by omega),z8 (by rfl),z7]; rfl
 ·rw[if_neg c,za (by
   split
   ·rfl
   ·split
    ·rfl
    ·omega),z6 hpd]
  simp only[cat]
  rw[zG _ (by simp; omega),zG _ (by simp; omega),z7]
theorem KX(a:Rat)(h:qS 1000 a):(nQ a).run=some (eB (norm a)):=by
 have BL:=oZ (by omega) h
 have TZ:=xA a (xM h (by omega))
 have zgi:∃ D,(norm a).2.2.1=zJ D:=by
  unfold norm kZ
  split
  ·exact⟨1,lG.symm⟩
  ·exact⟨_,rfl⟩
 unfold nQ
 rw[z6 TZ]
 clear TZ
 generalize norm a=v at *
 obtain⟨hn,hd,ln,ld⟩:=BL
 obtain⟨D,hD⟩:=zgi
 have Pe:=iX v.2.1 hn (by omega)
 have hpd:=iX v.2.2.1 hd (by omega)
 have TG:=iC (nv v.2.1) 1000 (Nat.le_trans (zW hn) ln)
 have iI:=iC (nv v.2.2.1) 1000 (Nat.le_trans (zW hd) ld)
 have hsl:=tB v.1
 rw[z6 (mq v.1),z6 Pe,zG _ (by omega)]
 rw[zc (fun hz=>⟨by omega,by simp at hz; omega⟩)]
 have zaF:(((v.2.2.1.length:Int) != 1)||(nth v.2.2.1 0 (zb (.int .u32)) != 1)) = !decide (nv v.2.2.1=1):=by
  rw[hD,zS]
  by_cases c:D=1
  ·subst c; rw[lG]; rfl
  ·rw[decide_eq_false c]
   by_cases z:D=0
   ·subst z; rw[qz]; rfl
   ·rw[yb z]
    by_cases y:D / 4294967296=0
    ·rw[y,qz]
     have uv:¬ (((D % 4294967296:Nat):Int)=1):=by omega
     have e9:nth [((D % 4294967296:Nat):Int)] 0 (zb (.int .u32))=((D % 4294967296:Nat):Int):=rfl
     rw[e9]
     generalize ((D % 4294967296:Nat):Int)=w at *
     simp[uv]
    ·rw[yb y]; simp; left; omega
 rw[zaF]
 unfold eB
 by_cases c:nv v.2.2.1=1
 ·rw[if_pos c,decide_eq_true c,z8 (by rfl),z7]; rfl
 ·rw[if_neg c,decide_eq_false c,za (by rfl)]
  simp only[cat]
  rw[zG _ (by simp; omega),z6 hpd,zG _ (by simp; omega),z7]
  simp
end Go.AM.Lf
namespace Go.AM.T
variable {σ ρ α β:Type}
theorem nq{r:σ→T (σ⊕ρ)}(l:List α)(d:α)(e:β→Int→σ)(I:Nat→β→Prop)(g:β→α→β)(fin:β→ρ)
  (step:∀ (k:Nat) (b:β) (x:α),k<l.length→nth l (k:Int) d=x→x∈l→I k b→(r (e b (k:Int))).run=some (.inl (e (g b x) ((k+1:Nat):Int)))∧I (k+1) (g b x))
  (done:∀ b,I l.length b→(r (e b (l.length:Int))).run=some (.inr (fin b))) {b:β} (h0:I 0 b):(loop r (e b 0)).run=some (fin (l.foldl g b))∧I l.length (l.foldl g b):=by
 have key:∀ (n k:Nat) (b:β),n+k=l.length→I k b→(loop r (e b (k:Int))).run=some (fin ((l.drop k).foldl g b))∧I l.length ((l.drop k).foldl g b):=by
  intro n
  induction n with
  | zero =>
   intro k b hk hb
   have:k=l.length:=by omega
   subst this
   rw[List.drop_length]
   exact⟨ql (done b hb),hb⟩
  | succ n ih =>
   intro k b hk hb
   have qu:k<l.length:=by omega
   have hd:l.drop k=l[k]::l.drop (k+1):=List.drop_eq_getElem_cons qu
   have hn:nth l (k:Int) d=l[k]:=by simp[nth,qu]
   obtain⟨h1,h2⟩:=step k b l[k] qu hn (List.getElem_mem qu) hb
   rw[hd,List.foldl_cons,qK h1]
   exact ih (k+1) _ (by omega) h2
 have:=key l.length 0 b (by omega) h0
 simpa using this
theorem nY{r:σ→T (σ⊕ρ)}(l:List α)(d:α)(e:β→Int→σ)(I:Nat→β→Prop)(g:β→α→β)(fin:β→ρ)
  (step:∀ (k:Nat) (b:β) (x:α),k<l.length→nth l (k:Int) d=x→x∈l→I k b→(r (e b (k:Int))).run=some (.inl (e (g b x) ((k+1:Nat):Int)))∧I (k+1) (g b x))
  (done:∀ b,I l.length b→(r (e b (l.length:Int))).run=some (.inr (fin b))) {b:β} (h0:I 0 b):(loop r (e b 0)).run=some (fin (l.foldl g b)) :=
 (nq l d e I g fin step done h0).1
theorem jt{r:σ→T (σ⊕ρ)}(l:List α)(d:α)(e:β→Int→σ)(I:Nat→β→Prop)(f:List α→β→ρ)
  (step:∀ (k:Nat) (b:β) (x:α) (xs:List α),k<l.length→nth l (k:Int) d=x→x∈l→l.drop k=x::xs→I k b →
   (∃ b',(r (e b (k:Int))).run=some (.inl (e b' ((k+1:Nat):Int)))∧I (k+1) b'∧f xs b'=f (x::xs) b)∨(r (e b (k:Int))).run=some (.inr (f (x::xs) b)))
  (done:∀ b,I l.length b→(r (e b (l.length:Int))).run=some (.inr (f [] b))) {b:β} (h0:I 0 b):(loop r (e b 0)).run=some (f l b):=by
 have key:∀ (n k:Nat) (b:β),n+k=l.length→I k b→(loop r (e b (k:Int))).run=some (f (l.drop k) b):=by
  intro n
  induction n with
  | zero =>
   intro k b hk hb
   have:k=l.length:=by omega
   subst this
   rw[List.drop_length]
   exact ql (done b hb)
  | succ n ih =>
   intro k b hk hb
   have qu:k<l.length:=by omega
   have hd:l.drop k=l[k]::l.drop (k+1):=List.drop_eq_getElem_cons qu
   have hn:nth l (k:Int) d=l[k]:=by simp[nth,qu]
   rcases step k b l[k] _ qu hn (List.getElem_mem qu) hd hb with⟨b',h1,h2,h3⟩ | h1
   ·rw[hd,qK h1,← h3]
    exact ih (k+1) _ (by omega) h2
   ·rw[hd]; exact ql h1
 have:=key l.length 0 b (by omega) h0
 simpa using this
end Go.AM.T
namespace Go.AM.PL
theorem vA(k n:Nat)(h:k<n)(hn:n≤4000000000000):zu ((k:Int)+1)=((k+1:Nat):Int):=by rw[zQ (by omega) (by omega)]; omega
theorem qQ{k n:Nat}(h:k<n):decide ((k:Int)<(n:Int))=true:=decide_eq_true (by omega)
theorem xo(n:Nat):decide ((n:Int)<(n:Int))=false:=decide_eq_false (by omega)
theorem zo{k n:Nat}(h:k<n):zi (k:Int) n:=⟨by omega,by omega⟩
theorem WU{α:Type}(f:α→zf)(l:List α)(s:zf):l.foldl (fun s x=>s++f x) s=s++l.flatMap f:=by
 induction l generalizing s with
 | nil=>simp
 | cons x l ih=>rw[List.foldl_cons,ih,List.flatMap_cons,List.append_assoc]
theorem Qn{α β:Type}(f:α→β)(l:List α)(s:List β):l.foldl (fun s x=>s++[f x]) s=s++l.map f:=by
 induction l generalizing s with
 | nil=>simp
 | cons x l ih=>rw[List.foldl_cons,ih,List.map_cons,List.append_assoc]; rfl
theorem j4{α:Type}(f:α→zf)(l:List α)(c:Nat)(h:∀ x∈l,(f x).length≤c):(l.flatMap f).length≤l.length*c:=by
 induction l with
 | nil=>simp
 | cons x l ih =>
  have h1:=h x List.mem_cons_self
  have h2:=ih fun y hy=>h y (List.mem_cons_of_mem _ hy)
  rw[List.flatMap_cons,List.length_append,List.length_cons,Nat.add_mul]; omega
theorem XB{k n c:Nat}(h:k≤n):k*c≤n*c:=Nat.mul_le_mul_right c h
theorem cA(a b:zf):cat a b=a++b:=rfl
theorem qi(a b:zf):(cat a b).length=a.length+b.length:=by rw[cA,List.length_append]
end Go.AM.PL
namespace Go.AM.PL
theorem z0e(n:Nat)(h:n≠0):Jd n=Fq n:=by
 induction n using Nat.strongRecOn with
 | _ n ih =>
  rw[Jd,tJ h]
  split
  ·rename_i c
   rw[show n / 10=0 by omega,sS]
   unfold OK
   rw[show n % 10=n by omega]; rfl
  ·rename_i c
   rw[ih (n / 10) (by omega) (by omega)]; rfl
theorem MH(n:Nat):Jd n=pr n:=by
 unfold pr
 by_cases h:n=0
 ·subst h; rw[Jd]; rfl
 ·rw[if_neg h,z0e n h]
theorem mN{α:Type}(text:α→T zf)(l:List α)(d:α)(f:α→zf)(c:Nat)(word:zf){r:zf×Int→T ((zf×Int)⊕zf)}
  (hr:∀ w i,r (w,i)=.ite (decide (i<(l.length:Int))) (.zd (zi i l.length)<|T.bind (text (nth l i d)) fun r =>
    .zd (((List.length ([32]:zf))+(List.length r))≤(4611686018427387904:Nat)) <|
    .zd (((List.length w)+(List.length (cat ([32]:zf) r)))≤(4611686018427387904:Nat)) <|
    .ret (.inl ((cat w (cat ([32]:zf) r)),(zu (i+(1:Int))))))
   (.ret (.inr w)))
  (ht:∀ x∈l,(text x).run=some (f x)) (hb:∀ x∈l,(f x).length≤c) (hl:l.length≤4000000000000) (hc:word.length+l.length*(c+1)≤1000000000000000000) :
  (T.loop r (word,0)).run=some (word++l.flatMap (fun x=>32::f x)):=by
 rw[← WU]
 refine T.nY l d (fun b i=>(b,i)) (fun k b=>b.length≤word.length+k*(c+1)) (fun s x=>s++(32::f x)) id (fun k b x hk hx hm hI => ?_) (fun b _ => ?_) (b:=word) (by simp)
 ·have h1:=hb x hm
  have h2:=XB (c:=c+1) (show k+1≤l.length from hk)
  rw[Nat.add_mul,Nat.one_mul]at h2
  refine⟨?_,by simp only[List.length_append,List.length_cons]; rw[Nat.add_mul,Nat.one_mul]; omega⟩
  rw[hr,za (qQ hk),zc (zo hk),hx,z6 (ht x hm),zG _ (by simp; omega),zG _ (by simp[cA]; omega),z7,vA k _ hk hl]; rfl
 ·rw[hr,z8 (xo _),z7]; rfl
end Go.AM.PL
namespace Go.AM.Lf
open PL
def Pk(n:Int):Prop := -9223372036854775808≤n∧n≤9223372036854775807
theorem TK(n:Int)(h:Pk n):(strconv_Itoa n).run=some (pO n):=by
 unfold strconv_Itoa
 unfold Pk at h
 rw[zc h,z7]
theorem zaZ{n:Nat}(h:n<18446744073709551616):(zJ n).length≤2:=qe.2 (by show n<4294967296 ^ 2; omega)
theorem CU{n:Nat}(h:n<18446744073709551616):(pr n).length≤37:=iC n 2 (zaZ h)
theorem BP(n:Int)(h:Pk n):(pO n).length≤38:=by
 obtain⟨h1,h2⟩:=h
 unfold pO
 split
 ·rw[MH]
  have:=CU (n:=n.natAbs) (by omega)
  simp; omega
 ·rw[MH]
  have:=CU (n:=n.toNat) (by omega)
  omega
theorem QG(a:Rat)(h:qS 1000 a):(eB (norm a)).length≤40000:=by
 have BL:=oZ (by omega) h
 generalize norm a=v at *
 have h1:=iC (nv v.2.1) 1000 (Nat.le_trans (zW BL.1) BL.2.2.1)
 have h2:=iC (nv v.2.2.1) 1000 (Nat.le_trans (zW BL.2.1) BL.2.2.2)
 have h3:=tB v.1
 unfold eB
 split<;>simp<;>omega
end Go.AM.Lf
namespace Go.AM.PL
theorem z4m(p q:Q)(h:q≠0):p / q=qv (decide (p.num<0) != decide (q.num<0)) (p.num.natAbs*q.den) (p.den*q.num.natAbs):=by
 have hn:q.num≠0:=fun z=>h (Rat.num_eq_zero.1 z)
 have h1:(q⁻¹).num.natAbs=q.den:=by
  rw[Rat.num_inv,Int.natAbs_mul,Int.natAbs_sign_of_ne_zero hn,Nat.one_mul,Int.natAbs_natCast]
 have h2:(q⁻¹).den=q.num.natAbs:=by rw[Rat.den_inv,if_neg hn]
 have h3:decide ((q⁻¹).num<0)=decide (q.num<0):=by
  refine decide_eq_decide.2 ?_
  rw[Rat.num_inv]
  have hd:=q.den_pos
  rcases Int.lt_trichotomy q.num 0 with c | c | c
  ·rw[Int.sign_eq_neg_one_of_neg c]; omega
  ·exact absurd c hn
  ·rw[Int.sign_eq_one_of_pos c]; omega
 rw[Rat.div_def,LC,h1,h2,h3,eI]
theorem z7t(b:Bool)(n:Nat):qv b n 1=((VY b n:Int):Q):=by
 rw[eI,Rat.mkRat_eq_div]
 have:((1:Nat):Q)=1:=rfl
 rw[this]
 grind
end Go.AM.PL
namespace Go.AM.Lf
open PL
theorem HF(a b:Rat)(ha:qS 10000000 a)(hb:qS 10000000 b)(h:val b≠0):(dS a b).run=some (qR (val a / val b),true):=by
 unfold dS
 rw[z6 (xA a (xM ha (by omega))),z6 (xA b (xM hb (by omega))),xk,xk]
 have la:=vn (by omega) ha
 have lb:=vn (by omega) hb
 rw[z4m _ _ h]
 generalize val a=p at *
 generalize val b=q at *
 simp only[lY,vO,ye]
 have l1:=wI p; have l2:=wi p; have l3:=wI q; have l4:=wi q
 have m1:=xl p.num.natAbs q.den
 have m2:=xl p.den q.num.natAbs
 have hz:(((zJ q.num.natAbs).length:Int)==0)=false:=by rw[de]; exact decide_eq_false fun z=>h (Rat.num_eq_zero.1 (Int.natAbs_eq_zero.1 z))
 rw[z8 hz,z6 (j8 _ _ (by omega) (by omega)),z6 (j8 _ _ (by omega) (by omega)),z6 (db _ _ _ (by omega) (by omega)),z7]
 rfl
theorem bV(n:Int)(h:Pk n):(xW n).run=some (qR (n:Q)):=by
 obtain⟨h1,h2⟩:=h
 unfold xW
 have hN:(bif (decide (n<(0:Int)))then(zx ((0:Int)-(zx n)))else(zx n))=((n.natAbs:Nat):Int):=by
  by_cases c:n<0
  ·rw[decide_eq_true c,cond_true,XH n,XH]; omega
  ·rw[decide_eq_false c,cond_false,qA (by omega) (by omega)]; omega
 have hl:(zJ n.natAbs).length≤2:=qe.2 (by show n.natAbs<4294967296 ^ 2; omega)
 have ho:=Vj (decide (n<0)) (zJ n.natAbs) [1] (zq _) Jf (by omega) (by simp)
 rw[zS,show nv [1]=1 from rfl,XC,z7t]at ho
 have hs:VY (decide (n<0)) n.natAbs=n:=by
  unfold VY
  by_cases c:n<0
  ·rw[decide_eq_true c,if_pos rfl]; omega
  ·rw[decide_eq_false c,if_neg (by simp)]; omega
 rw[hs]at ho
 rw[hN,z6 (mj n.natAbs (by omega)),z6 ho,z7]
theorem D6(a b:List Int)(ha:zw a)(hb:zw b)(la:a.length≤1000000000)(lb:b.length≤1000000000):(tw a b).run=some (if nv a<nv b then([],false)else(zJ (nv a-nv b),true)):=by
 have qa:=zW ha
 have qb:=zW hb
 unfold tw
 rw[z6 (lM a b ha hb la lb)]
 by_cases hlt0:nv a<nv b
 ·rw[if_pos hlt0]; simp[iO,hlt0]
 rw[if_neg hlt0,z8 (by unfold iO; rw[if_neg hlt0]; split<;>simp),z6 (wa a ha (by omega)),z6 (wa b hb (by omega))]
 generalize nv a=A at *
 generalize nv b=B at *
 obtain⟨x,J5⟩:∃ x,zJ A=x:=⟨_,rfl⟩
 obtain⟨y,TI⟩:∃ y,zJ B=y:=⟨_,rfl⟩
 have lx:zw x:=J5▸zq _
 have ly:zw y:=TI▸zq _
 have vx:nv x=A:=by rw[← J5,zS]
 have vy:nv y=B:=by rw[← TI,zS]
 have le2:x.length≤1000000000:=by rw[← J5]; omega
 rw[J5,TI]
 simp only[Int.toNat_natCast,List.length_replicate]
 have loop:∃ r:List Int,(Je y x (x.length:Int) (0,0,List.replicate x.length 0)).run=some r∧zw r∧r.length=x.length∧nv r+nv y=nv x:=by
  refine T.xm (fun s:Int×Int×List Int=>∃ (c i:Nat),s.1=(c:Int)∧s.2.1=(i:Int)∧c≤1∧i≤x.length∧zw s.2.2∧s.2.2.length=x.length∧nv (s.2.2.take i)+nv (y.take i)=nv (x.take i)+c*4294967296 ^ i)
   (fun s=>x.length-s.2.1.toNat) _ ?_ ⟨0,0,rfl,rfl,by omega,by omega,xy _,by simp,by simp⟩
  rintro⟨_,_,xs⟩ ⟨c,i,rfl,rfl,hc,hi,hl,hn,hv⟩
  simp only at hl hn hv ⊢
  by_cases qu:i<x.length
  ·left
   have hx:=wu lx i
   have hy:=wu ly i
   have hw:(bif decide ((i:Int)<(y.length:Int))then nth y (i:Int) 0 else 0)=(lm y i:Int):=by
    by_cases q:i<y.length
    ·rw[qQ q,cond_true,wE ly]
    ·rw[decide_eq_false (by omega),cond_false,Dc (a:=y) (by omega)]; rfl
   refine⟨(((if lm x i<lm y i+c then 1 else 0:Nat):Int),((i+1:Nat):Int),xs.set i (((lm x i+4294967296*(if lm x i<lm y i+c then 1 else 0))-(lm y i+c):Nat):Int)),?_,⟨_,i+1,rfl,rfl,by split<;>omega,by omega,cD hl _ (by omega) (by split<;>omega),by simpa using hn,?_⟩,by simp; omega⟩
   ·unfold nI
    dsimp only
    rw[za (qQ qu),zc (zo qu),zc (fun h=>zo (by have:=of_decide_eq_true h; omega)),xL,wE lx,hw,z6 (WY hx hy hc)]
    dsimp only
    rw[zc (by rw[hn]; exact zo qu),Int.toNat_natCast,Nat.zero_add,i1 i (by omega),jM _ rfl (by omega)]
    simp only[List.length_set]
    rw[ze _ rfl rfl rfl,zP,z7]
   ·simp only
    rw[ur _ (by omega),qf,qf,Nat.pow_succ,Int.toNat_natCast]
    exact VU hv hc hx hy
  ·right
   have QJ:i=x.length:=by omega
   subst QJ
   refine⟨xs,?_,hl,hn,?_⟩
   ·unfold nI
    simp
   ·rw[List.take_length,← hn,List.take_length,hn]at hv
    have h1:=kM y (min x.length y.length) (by omega)
    have HL:=yq lx
    have HI:nv (y.take x.length)=nv y:=by
     by_cases q:y.length≤x.length
     ·exact qT q
     ·rw[show min x.length y.length=x.length by omega]at h1
      rcases Nat.eq_zero_or_pos (nv (y.drop x.length))with z | z
      ·rw[z]at h1; omega
      ·have:=Nat.mul_le_mul_left (4294967296 ^ x.length) z
       omega
    have VN:=yq hl
    rw[hn]at VN
    rw[HI]at hv
    have:c=0:=by
     rcases Nat.eq_zero_or_pos c with h | h
     ·exact h
     ·have:c=1:=by omega
      subst this; omega
    subst this; omega
 obtain⟨xs,hr,hl,hn,hv⟩:=loop
 rw[T.run_mk _ (by omega) (by omega) (by omega) (by omega),ze _ rfl rfl rfl,zP,z6 hr,zP]
 simp only[List.drop_zero,Nat.zero_add,List.take_length]
 rw[z6 (wa xs hl (by omega)),z7,show nv xs=A-B by omega]
theorem oW(neg:Bool)(n d:Nat)(ln:(zJ n).length≤100000000)(ld:(zJ d).length≤100000000):(pj neg (zJ n) (zJ d)).run=some (qR (qv neg n d)):=by
 have:=KQ neg (zJ n) (zJ d) (zq _) (zq _) ln ld
 rwa [zS,zS,XC]at this
theorem dR(m n:Nat)(lm:(zJ m).length≤1000000000)(ln:(zJ n).length≤1000000000):(bZ (zJ m) (zJ n)).run=some (zJ (m*n)):=by
 have:=rJ (zJ m) (zJ n) (zq _) (zq _) lm ln
 rwa [zS,zS]at this
theorem Ds(m n:Nat)(lm:(zJ m).length≤1000000000)(ln:(zJ n).length≤1000000000):(Xn (zJ m) (zJ n)).run=some (zJ (m+n)):=by
 have:=C5 (zJ m) (zJ n) (zq _) (zq _) lm ln
 rwa [zS,zS]at this
theorem VC(m n:Nat)(lm:(zJ m).length≤1000000000)(ln:(zJ n).length≤1000000000):(tw (zJ m) (zJ n)).run=some (if m<n then([],false)else(zJ (m-n),true)):=by
 have:=D6 (zJ m) (zJ n) (zq _) (zq _) lm ln
 rwa [zS,zS]at this
theorem Ec(a b:Rat)(ha:qS 10000000 a)(hb:qS 10000000 b):(lS a b).run=some (qR (val a+val b)):=by
 unfold lS
 rw[z6 (ji a (xM ha (by omega))),z6 (ji b (xM hb (by omega))),xk,xk]
 have la:=vn (by omega) ha
 have lb:=vn (by omega) hb
 rw[TU]
 generalize val a=p at *
 generalize val b=q at *
 simp only[lY,vO,ye]
 have l1:=wI p; have l2:=wi p; have l3:=wI q; have l4:=wi q
 have m1:=xl p.num.natAbs q.den
 have m2:=xl q.num.natAbs p.den
 have m3:=xl p.den q.den
 rw[z6 (dR _ _ (by omega) (by omega)),z6 (dR _ _ (by omega) (by omega)),z6 (dR _ _ (by omega) (by omega))]
 have m4:=sx (p.num.natAbs*q.den) (q.num.natAbs*p.den) 20000000 (by omega) (by omega)
 generalize p.num.natAbs*q.den=x at *
 generalize q.num.natAbs*p.den=y at *
 generalize p.den*q.den=z at *
 by_cases c:decide (p.num<0)=decide (q.num<0)
 ·rw[za (by simp[c]),z6 (Ds _ _ (by omega) (by omega)),z6 (oW _ _ _ (by omega) (by omega)),z7,eI,L5,c]
 ·rw[z8 (by simpa using c),z6 (VC _ _ (by omega) (by omega))]
  by_cases g:y≤x
  ·have:=cd (Nat.sub_le x y)
   rw[if_neg (by omega:¬ x<y)]
   dsimp only
   rw[zD,z6 (oW _ _ _ (by omega) (by omega)),z7,eI,Jb _ _ _ _ c g]
  ·have:=cd (Nat.sub_le y x)
   rw[if_pos (by omega:x<y)]
   dsimp only
   rw[zr,z6 (VC _ _ (by omega) (by omega)),if_neg (by omega:¬ y<x)]
   dsimp only
   rw[z6 (oW _ _ _ (by omega) (by omega)),z7,eI,Jb _ _ _ _ (fun h=>c h.symm) (by omega:x≤y),Int.add_comm]
theorem dQ(n:Int)(h:Pk n):(j6 n).run=some (qR (n:Q)):=by
 obtain⟨h1,h2⟩:=h
 unfold j6
 have hN:(bif (decide (n<(0:Int)))then(zx ((0:Int)-(zx n)))else(zx n))=((n.natAbs:Nat):Int):=by
  by_cases c:n<0
  ·rw[decide_eq_true c,cond_true,XH n,XH]; omega
  ·rw[decide_eq_false c,cond_false,qA (by omega) (by omega)]; omega
 have nG:(jV 1).run=some (zJ 1):=kL 1 (by omega)
 rw[hN,z6 (kL n.natAbs (by omega)),z6 nG,z7]
 have e:qR (n:Q)=(decide (n<0),zJ n.natAbs,zJ 1,()):=by
  unfold qR
  rw[Rat.num_intCast,Rat.den_intCast]
 rw[e]
theorem Fy(s:zf):zM s s=true:=by rw[wx]; simp
theorem E7{l:List Int}(h:wf (.sl u32) l):zw l:=fun x hx=>by
 obtain⟨p,q⟩:=h x hx
 have p':(0:Int)≤x:=p
 have q':x≤4294967295:=q
 exact⟨p',by omega⟩
theorem HQ{a:Rat}(h:wf zt a):zw a.2.1∧zw a.2.2.1:=⟨E7 h.2.1,E7 h.2.2.1⟩
end Go.AM.Lf
namespace Go.AM.PL
def isD(b:UInt8):Bool:=decide (48≤b.toNat∧b.toNat≤57)
def QC(s:zf):Bool:=s.all isD
def eL(s:zf):Nat:=s.foldl (fun n b=>n*10+(b.toNat-48)) 0
theorem OF(s:zf)(n:Nat):s.foldl (fun n b=>n*10+(b.toNat-48)) n=n*10 ^ s.length+eL s:=by
 unfold eL
 induction s generalizing n with
 | nil=>simp
 | cons b s ih =>
  rw[List.foldl_cons,List.foldl_cons,ih,ih (0*10+(b.toNat-48)),List.length_cons,Nat.pow_succ]
  grind
theorem Kp(s t:zf):eL (s++t)=eL s*10 ^ t.length+eL t:=by
 have:=OF t (eL s)
 unfold eL at this ⊢
 rw[List.foldl_append,this]
theorem Oz(s:zf)(b:UInt8):eL (s++[b])=eL s*10+(b.toNat-48):=by
 unfold eL; rw[List.foldl_append]; rfl
theorem z1S{b:UInt8}:isD b=true↔48≤b.toNat∧b.toNat≤57:=by unfold isD; simp
theorem Jx(s t:zf):QC (s++t)=(QC s&&QC t):=by unfold QC; rw[List.all_append]
theorem O7(b:UInt8)(t:zf):QC (b::t)=(isD b&&QC t):=rfl
theorem oT{s:zf}{k:Nat}(h:k<s.length):wG s (k:Int)=((s[k]).toNat:Int):=by
 unfold wG; simp[h]
end Go.AM.PL

namespace Go.AM.PL
def zh8(t:zf):Option (Nat×Nat) :=
 if t.takeWhile isD=[]then none else match t.dropWhile isD with
 | []=>some (eL (t.takeWhile isD),1)
 | c::q=>if q=[]∨QC q=false then none else if c=46 then some (eL (t.takeWhile isD)*10 ^ q.length+eL q,10 ^ q.length)
  else if c=47 then(if eL q=0 then none else some (eL (t.takeWhile isD),eL q))else none
end Go.AM.PL
namespace Go.AM.Lf
open PL
def eT:Rat:=(false,[],[],())
def z35(s:zf):Option (Nat×Nat):=zh8 (z2e s [45])
theorem Yi(a b:List Int)(la:a.length≤1000000000)(e:a=b):(jc a b).run=some true:=by
 subst e
 have key:(cY a a 0).run=some (.inl ()):=by
  have:=T.jt (r:=wP a a) a (zb (.int .u32)) (fun(_:Unit) i=>i) (fun _ _=>True) (fun _ _=>(.inl ():Unit⊕Bool)) (fun k b x xs hk hx hm hd hI => ?_) (fun b _ => ?_) (b:=()) trivial
  ·exact this
  ·left
   refine⟨(),?_,trivial,rfl⟩
   unfold wP
   dsimp only
   rw[za (qQ hk),zc (zo hk),zc (zo hk),z8 (by simp),z7,vA k _ hk (by omega)]
  ·unfold wP
   dsimp only
   rw[z8 (xo _),z7]
 unfold jc
 rw[z8 (by simp),z6 key]; rfl
theorem Sg(a b:Rat)(ha:qS 100000 a)(hb:qS 100000 b)(h:val a=val b):(y5 a b).run=some true:=by
 unfold y5
 have l:=vn (by omega) ha
 have h1:=wI (val a); have h2:=wi (val a)
 rw[z6 (xA a (xM ha (by omega))),z6 (xA b (xM hb (by omega))),xk,xk,← h,za (by simp),vO,ye,z6 (Yi _ _ (by omega) rfl),zD,z6 (Yi _ _ (by omega) rfl),z7]
theorem Tz:qS 100000 eT:=⟨yj,yj,by simp[eT],by simp[eT]⟩
end Go.AM.Lf
namespace Go.AM.PL
theorem z3O(n:Nat):isD (OK n)=true∧(OK n).toNat-48=n % 10:=by
 have h:(OK n).toNat=48+n % 10:=by unfold OK; rw[UInt8.toNat_ofNat']; omega
 exact⟨z1S.2 (by omega),by omega⟩
theorem RH(n:Nat):QC (Fq n)=true∧eL (Fq n)=n:=by
 induction n using Nat.strongRecOn with
 | _ n ih =>
  by_cases h:n=0
  ·subst h; rw[sS]; exact⟨rfl,rfl⟩
  ·obtain⟨h1,h2⟩:=ih (n / 10) (by omega)
   obtain⟨h3,h4⟩:=z3O n
   rw[tJ h]
   refine⟨by rw[Jx,h1,O7,h3]; rfl,?_⟩
   rw[Oz,h2,h4]; omega
theorem z3w(n:Nat):QC (pr n)=true∧eL (pr n)=n:=by
 unfold pr
 split
 ·rename_i h; subst h; exact⟨by decide,by decide⟩
 ·exact RH n
theorem Pu(k:Nat):QC (kC [48] k)=true∧eL (kC [48] k)=0:=by
 induction k with
 | zero=>exact⟨rfl,rfl⟩
 | succ k ih =>
  show QC ([48]++kC [48] k)=true∧eL ([48]++kC [48] k)=0
  rw[Jx,Kp,ih.1,ih.2]
  exact⟨by decide,by show 0*_+0=0; omega⟩
end Go.AM.PL
namespace Go.AM.Lf
open PL
theorem Nl(s:zf)(k:Nat)(hk:k≠0)(hs:QC s=true):∃ w p,P8 s k=w++46::p∧QC w=true∧w≠[]∧QC p=true∧p.length=k∧eL w*10 ^ k+eL p=eL s∧w.length+k=max s.length (k+1):=by
 unfold P8
 rw[if_neg hk]
 have hr:=Pu (k+1-s.length)
 have hl:=QV (k+1-s.length)
 have hd:QC (kC [48] (k+1-s.length)++s)=true:=by rw[Jx,hr.1,hs]; rfl
 have hv:eL (kC [48] (k+1-s.length)++s)=eL s:=by rw[Kp,hr.2]; omega
 have hlen:(kC [48] (k+1-s.length)++s).length=(k+1-s.length)+s.length:=by rw[List.length_append,hl]
 generalize kC [48] (k+1-s.length)++s=t at *
 refine⟨t.take (t.length-k),t.drop (t.length-k),by simp,?_,?_,?_,by simp; omega,?_,by simp; omega⟩
 ·exact List.all_eq_true.2 fun x hx=>List.all_eq_true.1 hd x (List.mem_of_mem_take hx)
 ·intro z
  have:=congrArg List.length z
  simp at this; omega
 ·exact List.all_eq_true.2 fun x hx=>List.all_eq_true.1 hd x (List.mem_of_mem_drop hx)
 ·have:=Kp (t.take (t.length-k)) (t.drop (t.length-k))
  rw[List.take_append_drop,hv,List.length_drop,show t.length-(t.length-k)=k by omega]at this
  exact this.symm
theorem GW(b:Bool)(N D:Nat)(hD:D≠0):∀ (f k:Nat) (s:zf),xS b N D k f=(s,true)→∃ j,k≤j∧j<k+f∧N*10 ^ j % D=0∧s=ME b++P8 (pr (N*10 ^ j / D)) j
 | 0,k,s,h=>by unfold xS at h; cases h
 | f+1,k,s,h=>by
  unfold xS at h
  split at h
  ·rename_i c; cases h; exact⟨k,Nat.le_refl _,by omega,c,rfl⟩
  ·obtain⟨j,h1,h2,h3,h4⟩:=GW b N D hD f (k+1) s h
   exact⟨j,by omega,by omega,h3,h4⟩
def vu{α:Type}(p:α→Bool)(i:Int):List α→Int
 | [] => -1
 | x::r=>if p x=true then i else vu p (i+1) r
theorem z0d{α:Type}(p:α→Bool)(l:List α)(i:Int)(h:0≤i):vu p i l = -1∨(i≤vu p i l∧vu p i l<i+l.length):=by
 induction l generalizing i with
 | nil=>exact .inl rfl
 | cons x r ih =>
  simp only[vu,List.length_cons]
  split
  ·right; omega
  ·rcases ih (i+1) (by omega)with h | h
   ·exact .inl h
   ·right; omega
end Go.AM.Lf
namespace Go.AM.T
theorem zk{α β:Type}(a:β)(t:T α):(zd (a=a) t).run=t.run:=zc rfl t
end Go.AM.T
namespace Go.AM.Lf
open PL
abbrev zgk:Ty:=.cons .str (.cons zt .nil)
abbrev ItT:=den zgk
theorem WX{α:Type}{l:List α}{P:α→Prop}(h:∀ k (hk:k<l.length),P l[k]):∀ x∈l,P x:=by
 intro x hx
 obtain⟨k,hk,rfl⟩:=List.getElem_of_mem hx
 exact h k hk
theorem xh{α:Type}{l:List α}{k:Nat}(h:k<l.length)(d:α):nth l (k:Int) d=l[k]:=by simp[nth,h]
theorem Vp(s:zf):(bytesOf s).length=s.length:=by unfold bytesOf; simp
theorem Dz(s t:zf):bytesOf (s++t)=bytesOf s++bytesOf t:=by unfold bytesOf; simp
theorem Cy(s:zf):qV (bytesOf s)=s:=by
 unfold qV bytesOf
 rw[List.map_map]
 conv=>rhs; rw[← List.map_id s]
 refine List.map_congr_left fun b _ => ?_
 simp[byteOf]
theorem YR(s:zf):∀ n∈bytesOf s,(0:Int)≤n∧n<256:=by
 intro n hn
 unfold bytesOf at hn
 obtain⟨b,_,rfl⟩:=List.mem_map.1 hn
 have:=b.toNat_lt
 omega
theorem uc(s b:zf)(h:b.length+s.length≤140737488355328):(qo s () (bytesOf b)).run=some ((s.length:Int),(),bytesOf (b++s)):=by
 unfold qo mF
 simp only[T.bind]
 rw[ze _ rfl rfl rfl,zP,xi _ rfl rfl rfl (by simp only[Vp]; omega),ze _ (by simp) rfl (by simp),zc (by simp),z7,Dz]
theorem YM(b:zf)(h:b.length≤140737488355328):(oB () (bytesOf b)).run=some (b,()):=by
 unfold oB z1R
 rw[zc ⟨YR b,by rw[Vp]; exact h⟩,z7,Cy]
def zcU(x:ItT):zf:=x.1++[32]++eB (norm x.2.1)++[10]
theorem YG(a:List Rat)(hl:a.length≤1000000000000):(uI a).run=some a:=by
 unfold uI
 rw[zc]
 ·cases a with
  | nil=>simp
  | cons x a=>simp only[List.length_cons]at hl; simp(disch:=omega)
 ·rintro rfl r hr
  first
  | simpa[T.leads]using hr
  | (obtain⟨_,_,hr⟩:=hr; simpa[T.leads]using hr)
theorem Cj(f:Form)(hl:f.2.2.2.1.length≤1000000000):(mb f).run=some (f.2.2.2.1.map (·.1)):=by
 have key:=T.nq (r:=ko f.2.2.2.1 (f.2.2.2.1.length:Int)) f.2.2.2.1 (zb qc) (fun(b:List zf) i=>(i,b)) (fun k b=>b.length=k) (fun b x=>b++[x.1]) id (fun k b x hk hx hm hI => ?_) (fun b hI => ?_) (b:=[]) rfl
 ·obtain⟨k1,k2⟩:=key
  rw[Qn,List.nil_append]at k1 k2
  have k1:(tb f.2.2.2.1 (f.2.2.2.1.length:Int) ((0:Int),([]:List zf))).run=some (f.2.2.2.1.map (·.1)):=k1
  unfold mb
  rw[ze _ rfl rfl rfl,T.zk,z6 k1,T.zk,z7,Nat.zero_add,List.take_length,List.drop_zero]
 ·refine⟨?_,by simp; omega⟩
  unfold ko
  dsimp only
  rw[za (qQ hk),zc (zo hk),hx,xi _ rfl rfl rfl (by omega),ze _ (by simp) rfl (by simp),zc (by simp),z7,vA k _ hk (by omega)]
 ·unfold ko
  dsimp only
  rw[z8 (xo _),ze _ rfl rfl rfl,T.zk,z7]; rfl
theorem z1i(f:Form)(ps:List Rat)(hl:f.2.2.2.1.length≤1000000000)(hp:f.2.1.length≤1000000000)(Eh:ps.length≤1000000000) :
  (tp f ps).run=some (f.2.2.2.1.map (·.1),f.2.1.map (·.1),ps,()):=by
 have key:=T.nq (r:=du f.2.1 (f.2.1.length:Int)) f.2.1 (zb q8) (fun(b:List zf) i=>(i,(([]:List Rat),()),(f.2.2.2.1.map (·.1),ps,()),[],[],b)) (fun k b=>b.length=k) (fun b x=>b++[x.1])
  (fun b=>((([]:List Rat),()),(f.2.2.2.1.map (·.1),ps,()),[],[],b)) (fun k b x hk hx hm hI => ?_) (fun b hI => ?_) (b:=[]) rfl
 ·obtain⟨k1,k2⟩:=key
  rw[Qn,List.nil_append]at k1 k2
  have k1:(Vu f.2.1 (f.2.1.length:Int) ((0:Int),((([]:List Rat),()),((f.2.2.2.1.map (·.1),(ps,())),(([]:List zf),(([]:List zf),([]:List zf))))))).run=some ((([]:List Rat),()),(f.2.2.2.1.map (·.1),ps,()),[],[],f.2.1.map (·.1)):=k1
  unfold tp
  rw[z6 (Cj f hl),z6 (YG ps (by omega)),ze _ rfl rfl rfl,ze _ rfl rfl rfl,ze _ rfl rfl rfl,T.zk,T.zk,T.zk,z6 k1,T.zk,z7,Nat.zero_add,List.take_length,List.drop_zero]
 ·refine⟨?_,by simp; omega⟩
  unfold du
  dsimp only
  rw[za (qQ hk),zc (zo hk),hx,xi _ rfl rfl rfl (by omega),ze _ rfl rfl rfl,ze _ rfl rfl rfl,ze _ (by simp) rfl (by simp),T.zk,T.zk,zc (by simp),z7,vA k _ hk (by omega)]
 ·unfold du
  dsimp only
  rw[z8 (xo _),ze _ rfl rfl rfl,ze _ rfl rfl rfl,ze _ rfl rfl rfl,T.zk,T.zk,T.zk,z7]
def S8(b:UInt8):Bool:=decide (97≤(b.toNat:Int))&&decide ((b.toNat:Int)≤122)
def Qs(b:UInt8):Bool:=S8 b||((decide (48≤(b.toNat:Int))&&decide ((b.toNat:Int)≤57))||((b.toNat:Int)==95))
def w9(s:zf):Bool:=match s with | []=>false | b::_=>decide (s.length≤24)&&(S8 b&&s.all Qs)
theorem U1(b:UInt8):(fj (b.toNat:Int)).run=some (Qs b):=by
 have h1:(uB (b.toNat:Int)).run=some (S8 b):=rfl
 have h2:(o8 (b.toNat:Int)).run=some (decide (48≤(b.toNat:Int))&&decide ((b.toNat:Int)≤57)):=rfl
 unfold fj Qs
 rw[z6 h1]
 cases S8 b with
 | true=>rw[zD,z7]; rfl
 | false =>
  rw[zr,z6 h2]
  cases(decide (48≤(b.toNat:Int))&&decide ((b.toNat:Int)≤57))with
  | true=>rw[zD,z7]; rfl
  | false=>rw[zr,z7]; rfl
theorem dy(s:zf):(uO s).run=some (w9 s):=by
 unfold uO
 cases s with
 | nil=>rfl
 | cons b r =>
  have e0:zM (b::r) []=false:=by rw[wx]; simp
  rw[e0]
  by_cases c:24<(b::r).length
  ·have:(T.ite false (.ret true) (.ite (decide ((24:Int)<((b::r).length:Int))) (.ret true) (.zd (zi (0:Int) (List.length (b::r)))<|T.bind (uB (wG (b::r) (0:Int))) fun r=>.ret (!r))):T Bool).run=some true:=by
    rw[zr,za (decide_eq_true (by omega)),z7]
   rw[z6 this,zD,z7]
   unfold w9
   rw[decide_eq_false (by omega)]; rfl
  ·have hb:wG (b::r) (0:Int)=(b.toNat:Int):=oT (s:=b::r) (k:=0) (by simp)
   have h1:(uB (b.toNat:Int)).run=some (S8 b):=rfl
   have:(T.ite false (.ret true) (.ite (decide ((24:Int)<((b::r).length:Int))) (.ret true) (.zd (zi (0:Int) (List.length (b::r)))<|T.bind (uB (wG (b::r) (0:Int))) fun r=>.ret (!r))):T Bool).run=some (!S8 b):=by
    rw[zr,z8 (decide_eq_false (by omega)),zc (by refine⟨by omega,?_⟩; simp only[List.length_cons]; omega),hb,z6 h1,z7]
   rw[z6 this]
   unfold w9
   dsimp only
   rw[decide_eq_true (by omega),Bool.true_and]
   cases S8 b with
   | false=>rw[za (by rfl),z7]; rfl
   | true =>
    rw[z8 (by rfl),Bool.true_and]
    have key:(XF (b::r) ((b::r).length:Int) 0).run=some (if(b::r).all Qs=true then .inl ()else .inr false):=by
     refine T.jt (r:=y8 (b::r) ((b::r).length:Int)) (b::r) (0:UInt8) (fun(_:Unit) i=>i) (fun _ _=>True) (fun l _=>(if l.all Qs=true then .inl ()else .inr false:Unit⊕Bool)) (fun k _ x xs hk hx hm hd hI => ?_) (fun _ _ => ?_) (b:=()) trivial
     ·have hxk:(b::r)[k]=x:=by rw[← hx]; unfold nth; rw[Int.toNat_natCast,List.getD_eq_getElem?_getD,List.getElem?_eq_getElem hk]; rfl
      have Ei:wG (b::r) (k:Int)=(x.toNat:Int):=by rw[oT hk,hxk]
      cases XR:Qs x with
      | true =>
       left
       refine⟨(),?_,trivial,?_⟩
       ·unfold y8
        rw[za (qQ hk),zc (zo hk),Ei,z6 (U1 x),XR,z8 (by rfl),z7,vA k _ hk (by omega)]
       ·rw[List.all_cons,XR,Bool.true_and]
      | false =>
       right
       unfold y8
       rw[za (qQ hk),zc (zo hk),Ei,z6 (U1 x),XR,za (by rfl),z7,List.all_cons,XR]
       rfl
     ·unfold y8
      rw[z8 (xo _),z7]; rfl
    rw[z6 key]
    cases h:(b::r).all Qs with
    | true=>rfl
    | false=>rfl
theorem Zw(l:List zf)(v:zf)(hl:l.length≤1000000000):(qB l v).run=some (PL.vu (fun s=>zM v s) 0 l):=by
 have key:(vY l v (l.length:Int) 0).run=some (if PL.vu (fun s=>zM v s) 0 l = -1 then .inl ()else .inr (PL.vu (fun s=>zM v s) 0 l)):=by
  refine PL.gv (r:=qx l v (l.length:Int)) l (zb .str) _ (fun i h0 h hp => ?_) (fun i h0 h hp => ?_) (fun i h => ?_)
  ·unfold qx
   rw[za (decide_eq_true h),zc ⟨h0,h⟩,za hp,z7]
  ·unfold qx
   rw[za (decide_eq_true h),zc ⟨h0,h⟩,z8 hp,z7,zQ (by omega) (by omega)]
  ·unfold qx
   rw[z8 (decide_eq_false h),z7]
 unfold qB
 rw[z6 key]
 split<;>rename_i h
 ·rw[h]; rfl
 ·rfl
theorem nB{α:Type}(f:α→Nat)(l:List α):∀ x∈l,f x≤cj f l:=by
 induction l with
 | nil=>intro x hx; cases hx
 | cons y l ih =>
  intro x hx
  show _≤f y+cj f l
  rcases List.mem_cons.1 hx with rfl | hx
  ·omega
  ·have:=ih x hx; omega
theorem dL{α:Type}(f:α→Nat)(l:List α)(h:∀ x,1≤f x):l.length≤cj f l:=by
 induction l with
 | nil=>simp
 | cons y l ih =>
  show _≤f y+cj f l
  have:=h y
  simp; omega
mutual
/-- What an expression weighs. -/
def szE:Expr→Nat
 | .mk _ n s l=>3+s.length+8*n.2.1.length+8*n.2.2.1.length+szEs l
def szEs:List Expr→Nat
 | []=>0
 | e::r=>szE e+szEs r
end
mutual
theorem Yd:∀ (e:Expr) (left:Int),0≤wtE e left→wtE e left=left-szE e
 | .mk _ n s l,left,h=>by
  have:=Ly l (left-3-s.length-8*n.2.1.length-8*n.2.2.1.length)
  simp only[wtE,szE]at h ⊢
  rw[this h]; omega
theorem Ly:∀ (l:List Expr) (left:Int),0≤wtEs l left→wtEs l left=left-szEs l
 | [],left,h=>by simp[wtEs,szEs]
 | e::r,left,h=>by
  have h1:=Yd e left
  have h2:=Ly r (wtE e left)
  have h3:=(Hu r (wtE e left)).1
  by_cases c:0≤left
  ·simp only[wtEs,szEs,if_pos c]at h ⊢
   rw[h2 h,h1 (by omega)]; omega
  ·simp only[wtEs,if_neg c]at h; omega
end
structure FB(f:Form):Prop where
 l1:f.1.length≤1048576
 l2:f.2.1.length≤1048576
 l3:f.2.2.1.length≤1048576
 l4:f.2.2.2.1.length≤1048576
 l5:f.2.2.2.2.1.length≤1048576
 l6:f.2.2.2.2.2.1.length≤1048576
 s:∀ x∈f.1,x.1.length≤1048576
 p:∀ x∈f.2.1,x.1.length≤1048576∧x.2.1.2.1.length≤1048576∧x.2.1.2.2.1.length≤1048576∧zw x.2.1.2.1∧zw x.2.1.2.2.1
 g:∀ x∈f.2.2.1,x.1.length≤1048576∧x.2.1.length≤1048576
 d:∀ x∈f.2.2.2.1,x.1.length≤1048576
 r:∀ x∈f.2.2.2.2.1,x.1.length≤1048576∧x.2.2.1.length≤1048576∧bkE x.2.2.2.1≤1048576∧bkE x.2.2.2.2.1≤1048576
 c:∀ x∈f.2.2.2.2.2.1,x.1.length≤1048576∧bkE x.2.2.2.1≤1048576∧bkE x.2.2.2.2.1≤1048576
theorem z4y{f:Form}(hw:wf zK f)(hb:bk zK f≤1048576):FB f:=by
 have e1:bk zK f=(cj (bk zZ) f.1+1)+((cj (bk q8) f.2.1+1)+((cj (bk qy) f.2.2.1+1)+((cj (bk qc) f.2.2.2.1+1)+((cj (bk zl) f.2.2.2.2.1+1)+((cj (bk zn) f.2.2.2.2.2.1+1)+1))))):=rfl
 have b1:∀ x,bk zZ x=(x.1.length+1)+(1+1):=fun _=>rfl
 have b2:∀ x,bk q8 x=(x.1.length+1)+((1+((cj (bk u32) x.2.1.2.1+1)+((cj (bk u32) x.2.1.2.2.1+1)+1)))+1):=fun _=>rfl
 have b3:∀ x,bk qy x=(x.1.length+1)+((x.2.1.length+1)+1):=fun _=>rfl
 have b4:∀ x,bk qc x=(x.1.length+1)+(1+(1+(1+1))):=fun _=>rfl
 have b5:∀ x,bk zl x=(x.1.length+1)+(1+((x.2.2.1.length+1)+(bkE x.2.2.2.1+(bkE x.2.2.2.2.1+1)))):=fun _=>rfl
 have b6:∀ x,bk zn x=(x.1.length+1)+(1+(1+(bkE x.2.2.2.1+(bkE x.2.2.2.2.1+1)))):=fun _=>rfl
 have u1:∀ l:List Int,cj (bk u32) l=l.length:=fun l=>C9 l
 have k1:=dL (bk zZ) f.1 (fun x=>by rw[b1]; omega)
 have k2:=dL (bk q8) f.2.1 (fun x=>by rw[b2]; omega)
 have k3:=dL (bk qy) f.2.2.1 (fun x=>by rw[b3]; omega)
 have k4:=dL (bk qc) f.2.2.2.1 (fun x=>by rw[b4]; omega)
 have k5:=dL (bk zl) f.2.2.2.2.1 (fun x=>by rw[b5]; omega)
 have k6:=dL (bk zn) f.2.2.2.2.2.1 (fun x=>by rw[b6]; omega)
 rw[e1]at hb
 refine⟨by omega,by omega,by omega,by omega,by omega,by omega,fun x hx => ?_,fun x hx => ?_,fun x hx => ?_,fun x hx => ?_,fun x hx => ?_,fun x hx => ?_⟩
 ·have:=nB (bk zZ) f.1 x hx; rw[b1]at this; omega
 ·have:=nB (bk q8) f.2.1 x hx
  rw[b2,u1,u1]at this
  have hwx:wf q8 x:=hw.2.1 x hx
  obtain⟨r1,r2⟩:=HQ hwx.2.1
  exact⟨by omega,by omega,by omega,r1,r2⟩
 ·have:=nB (bk qy) f.2.2.1 x hx; rw[b3]at this; exact⟨by omega,by omega⟩
 ·have:=nB (bk qc) f.2.2.2.1 x hx; rw[b4]at this; omega
 ·have:=nB (bk zl) f.2.2.2.2.1 x hx; rw[b5]at this; exact⟨by omega,by omega,by omega,by omega⟩
 ·have:=nB (bk zn) f.2.2.2.2.2.1 x hx; rw[b6]at this; exact⟨by omega,by omega,by omega⟩
theorem cF{r:Int×Int→T ((Int×Int)⊕Int)}(len:Nat)(hlen:len≤1048576)(P:Nat→Prop)
  (h1:∀ (n:Int) (k:Nat),k<len→0≤n→n≤600→∃ n',(r (n,(k:Int))).run=some (.inl (n',((k+1:Nat):Int))) ∧ -10000000000≤n'∧n'≤n∧(0≤n'→P k))
  (h2:∀ (n:Int) (k:Nat),¬ (k<len∧0≤n)→(r (n,(k:Int))).run=some (.inr n)) (n:Int) (hn : -10000000000≤n) (Yo:n≤600) :
  ∃ n',(T.loop r (n,0)).run=some n' ∧ -10000000000≤n'∧n'≤n∧(0≤n'→∀ k<len,P k):=by
 refine T.xm (fun s:Int×Int=>∃ k:Nat,s.2=(k:Int)∧k≤len ∧ -10000000000≤s.1∧s.1≤n∧(0≤s.1→∀ j<k,P j)) (fun s=>len-s.2.toNat) _ (fun s hs => ?_) ⟨0,rfl,by omega,hn,by omega,fun _ j hj=>by omega⟩
 obtain⟨m,i⟩:=s
 obtain⟨k,rfl,hk,hm,NH,hP⟩:=hs
 by_cases c:k<len∧0≤m
 ·left
  obtain⟨n',g1,g2,g3,g4⟩:=h1 m k c.1 c.2 (by dsimp only at NH; omega)
  refine⟨_,g1,⟨k+1,rfl,c.1,g2,by dsimp only at NH ⊢; omega,fun h0 j hj => ?_⟩,by dsimp only; omega⟩
  rcases Nat.lt_succ_iff_lt_or_eq.1 hj with hj | rfl
  ·exact hP c.2 j hj
  ·exact g4 h0
 ·right
  refine⟨m,h2 m k c,hm,NH,fun h0 j hj=>hP h0 j ?_⟩
  have:k=len:=by
   by_cases q:k<len
   ·exact absurd ⟨q,h0⟩ c
   ·omega
  omega
theorem Gm{k len:Nat}{n:Int}(h:¬ (k<len∧0≤n)):(decide ((k:Int)<(len:Int))&&decide (0≤n))=false:=by
 by_cases q:k<len
 ·have:¬ 0≤n:=fun z=>h ⟨q,z⟩
  rw[decide_eq_false this,Bool.and_false]
 ·rw[decide_eq_false (by omega),Bool.false_and]
theorem GD{k len:Nat}{n:Int}(h:k<len)(h0:0≤n):(decide ((k:Int)<(len:Int))&&decide (0≤n))=true:=by
 rw[decide_eq_true (by omega),decide_eq_true h0]; rfl
def gJ(l:List Int):Bool:=zJ (nv l)==l
def eG(a:Rat):Bool:=gJ a.2.1&&(gJ a.2.2.1&&(!(nv a.2.2.1==0)&&(!(a.1&&(nv a.2.1==0))&&(Nat.gcd (nv a.2.1) (nv a.2.2.1)==1))))
theorem ju{l:List Int}(h:zw l):gJ l=true↔Vx l:=by
 unfold gJ
 constructor
 ·intro e
  have e:zJ (nv l)=l:=by simpa using e
  rw[← e]; exact Z5 _
 ·intro ht
  rw[Qd h ht]; simp
theorem Yb(l:List Int)(h:zw l)(hl:l.length≤1000000000):(lg l).run=some (gJ l):=by
 unfold lg
 cases l with
 | nil =>
  rw[zc (fun h=>by simp at h),z7]
  have e:gJ []=true:=by unfold gJ; rw[show nv []=0 from rfl,qz]; rfl
  rw[e]; rfl
 | cons x r =>
  obtain⟨n,hn⟩:∃ n,(x::r).length=n+1:=⟨r.length,rfl⟩
  have ew:zu (((x::r).length:Int)-1)=(n:Int):=by rw[hn,zQ (by omega) (by omega)]; omega
  have Ic:n<(x::r).length:=by omega
  have e0:(((x::r).length:Int)==0)=false:=by rw[hn]; simp; omega
  have hg:(x::r).getLast? = some ((x::r)[n]):=by
   rw[List.getLast?_eq_getElem?,hn,Nat.add_sub_cancel,List.getElem?_eq_getElem Ic]
  rw[zc (fun _=>by rw[ew]; exact zo Ic),z7,ew,xh Ic,e0,Bool.false_or]
  congr 1
  cases hq:((x::r)[n] != 0)with
  | true =>
   symm
   rw[ju h]
   intro y hy
   rw[hg]at hy
   cases hy
   simpa using hq
  | false =>
   symm
   rw[Bool.eq_false_iff]
   intro ht
   have:=(ju h).1 ht _ hg
   simp at hq
   exact this hq
theorem oI(a:Rat)(h:qS 100000000 a):(ta a).run=some (eG a):=by
 obtain⟨h1,h2,h3,h4⟩:=h
 unfold ta eG
 have n1:=Yb a.2.1 h1 (by omega)
 have n2:=Yb a.2.2.1 h2 (by omega)
 have hzD:gJ a.2.2.1=true→(((a.2.2.1.length:Int))==0)=(nv a.2.2.1==0):=fun ht=>by
  have e:zJ (nv a.2.2.1)=a.2.2.1:=Qd h2 ((ju h2).1 ht)
  conv=>lhs; rw[← e]
  rw[de]
  cases q:decide (nv a.2.2.1=0)<;>simp_all
 have hzN:gJ a.2.1=true→(((a.2.1.length:Int))==0)=(nv a.2.1==0):=fun ht=>by
  have e:zJ (nv a.2.1)=a.2.1:=Qd h1 ((ju h1).1 ht)
  conv=>lhs; rw[← e]
  rw[de]
  cases q:decide (nv a.2.1=0)<;>simp_all
 have hg:=Vr a.2.1 a.2.2.1 h1 h2 (by omega) (by omega)
 have nG:(jV 1).run=some (zJ 1):=kL 1 (by omega)
 have hc:∀ g:Nat,(zJ g).length≤100000001→(lX (zJ g) (zJ 1)).run=some (iO g 1):=fun g hl=>by
  have:=lM (zJ g) (zJ 1) (zq _) (zq _) (by omega) (by rw[lG]; simp)
  rwa [zS,zS]at this
 have head:∀ b:Bool,((T.bind (lg a.2.1) fun r=>.ite (!r) (.ret true) (T.bind (lg a.2.2.1) fun r1=>.ite (!r1) (.ret true) (.ite ((a.2.2.1.length:Int)==(0:Int)) (.ret true) (.ite a.1 (.ret ((a.2.1.length:Int)==(0:Int))) (.ret false))))):T Bool).run =
   some (!(gJ a.2.1&&(gJ a.2.2.1&&(!(nv a.2.2.1==0) && !(a.1&&(nv a.2.1==0)))))):=fun _=>by
  rw[z6 n1]
  cases t1:gJ a.2.1 with
  | false=>rfl
  | true =>
   rw[z8 (by rfl),z6 n2]
   cases t2:gJ a.2.2.1 with
   | false=>rfl
   | true =>
    rw[z8 (by rfl),hzD t2]
    cases nv a.2.2.1==0 with
    | true=>rfl
    | false =>
     rw[zr,hzN t1]
     cases a.1 with
     | true=>rw[zD,z7]; cases nv a.2.1==0<;>rfl
     | false=>rfl
 rw[z6 (head true)]
 cases hb:(gJ a.2.1&&(gJ a.2.2.1&&(!(nv a.2.2.1==0) && !(a.1&&(nv a.2.1==0)))))with
 | false =>
  rw[za (by rfl),z7]
  congr 1
  generalize (Nat.gcd (nv a.2.1) (nv a.2.2.1)==1)=g
  revert hb
  cases gJ a.2.1<;>cases gJ a.2.2.1<;>cases(nv a.2.2.1==0)<;>cases a.1<;>cases(nv a.2.1==0)<;>simp
 | true =>
  rw[z8 (by rfl),z6 hg,z6 nG]
  have hle:(zJ (Nat.gcd (nv a.2.1) (nv a.2.2.1))).length≤100000001:=by
   simp only[Bool.and_eq_true,Bool.not_eq_true',beq_eq_false_iff_ne]at hb
   have hd:0<nv a.2.2.1:=Nat.pos_of_ne_zero hb.2.2.1
   have m1:=cd (Nat.gcd_le_right (nv a.2.1) hd)
   have m2:=zW h2
   omega
  rw[z6 (hc _ hle),z7]
  congr 1
  have hgc:(iO (Nat.gcd (nv a.2.1) (nv a.2.2.1)) 1==0)=(Nat.gcd (nv a.2.1) (nv a.2.2.1)==1):=by
   generalize Nat.gcd (nv a.2.1) (nv a.2.2.1)=g
   unfold iO
   by_cases q1:g<1
   ·rw[if_pos q1]; simp; omega
   ·by_cases q2:1<g
    ·rw[if_neg q1,if_pos q2]; simp; omega
    ·have:g=1:=by omega
     subst this; rfl
  rw[hgc]
  revert hb
  generalize (Nat.gcd (nv a.2.1) (nv a.2.2.1)==1)=g
  cases gJ a.2.1<;>cases gJ a.2.2.1<;>cases(nv a.2.2.1==0)<;>cases a.1<;>cases(nv a.2.1==0)<;>simp
def wX(a:Rat):Bool:=decide (16<(norm a).2.1.length)||decide (16<(norm a).2.2.1.length)
theorem yN(a:Rat)(h:qS 100000000 a):(uX a).run=some (wX a):=by
 unfold uX wX
 rw[z6 (ji a h),z7]
 congr 2
 ·exact decide_eq_decide.2 (by omega)
 ·exact decide_eq_decide.2 (by omega)
def cE(a:Rat):Bool:=eG a&&(!a.1&&(!wX a&&(xS (norm a).1 (nv (norm a).2.1) (nv (norm a).2.2.1) 0 61).2))
def uq(a:Rat):Bool := !a.1&&(a.2.1.isEmpty&&(a.2.2.1.isEmpty||eG a))
def VP(k:Int):Int:=if k=1∨k=2 then 0 else if k=7 then 1 else if k=3∨k=4∨k=5∨k=6 then 2 else -1
def dW(e:Expr):Bool:=((e.kids.length:Int)==VP e.kind)&&(if e.kind=1 then cE e.num&&zM e.name []else if e.kind=2 then uq e.num&&w9 e.name else uq e.num&&zM e.name [])
mutual
def xU:Expr→Nat
 | .mk _ _ _ l=>1+um l
def um:List Expr→Nat
 | []=>0
 | e::r=>xU e+um r
end
mutual
def vf(deep:Nat):Expr→Bool
 | .mk k n s l=>decide (deep<32)&&(dW (.mk k n s l)&&yd (deep+1) l)
def yd(deep:Nat):List Expr→Bool
 | []=>true
 | e::r=>vf deep e&&yd deep r
end
theorem W0:∀ (l:List Expr),l.length≤um l
 | []=>Nat.le_refl _
 | .mk _ _ _ k::r=>by
  have:=W0 r
  unfold um xU
  simp only[List.length_cons]; omega
theorem Xl{e:Expr}:∀ {l:List Expr},e∈l→xU e≤um l
 | [],h=>by cases h
 | x::r,h=>by
  unfold um
  rcases List.mem_cons.1 h with rfl | h
  ·omega
  ·have:=Xl h; omega
mutual
/-- How many nodes are looked at. -/
def Yq(deep:Nat):Expr→Nat
 | .mk k n s l=>1+if(decide (deep<32)&&dW (.mk k n s l))=true then mT (deep+1) l else 0
def mT(deep:Nat):List Expr→Nat
 | []=>0
 | e::r=>Yq deep e+if vf deep e=true then mT deep r else 0
end
mutual
theorem Ml:∀ (e:Expr) (deep:Nat),Yq deep e≤xU e
 | .mk k n s l,deep=>by
  have:=Jo l (deep+1)
  unfold Yq xU
  split<;>omega
theorem Jo:∀ (l:List Expr) (deep:Nat),mT deep l≤um l
 | [],_=>Nat.le_refl _
 | e::r,deep=>by
  have h1:=Ml e deep
  have h2:=Jo r deep
  unfold mT um
  split<;>omega
end
mutual
theorem Bx:∀ (e:Expr),3*xU e≤szE e
 | .mk k n s l=>by
  have:=L8 l
  unfold xU szE
  omega
theorem L8:∀ (l:List Expr),3*um l≤szEs l
 | []=>Nat.le_refl _
 | e::r=>by
  have h1:=Bx e
  have h2:=L8 r
  unfold um szEs
  omega
end
def Vl(a:Rat):Prop:=qS 100 a
mutual
def allOk:Expr→Prop
 | .mk _ n _ l=>Vl n∧allOks l
def allOks:List Expr→Prop
 | []=>True
 | e::r=>allOk e∧allOks r
end
theorem QD{l:List Expr}(h:allOks l):∀ e∈l,allOk e:=by
 induction l with
 | nil=>intro e he; cases he
 | cons x r ih =>
  intro e he
  rcases List.mem_cons.1 he with rfl | he
  ·exact h.1
  ·exact ih h.2 e he
mutual
theorem sG:∀ (e:Expr),wfE e→szE e≤800→allOk e
 | .mk k n s l,hw,hs=>by
  unfold szE at hs
  have hw':wf XN (Expr.mk k n s l).NL:=(M9 _).2 hw
  obtain⟨_,hn,_,hl,_⟩:=hw'
  obtain⟨r1,r2⟩:=HQ hn
  have r1:zw n.2.1:=r1
  have r2:zw n.2.2.1:=r2
  refine⟨⟨r1,r2,by omega,by omega⟩,Gt l (fun e he=>hl e he) (by omega)⟩
theorem Gt:∀ (l:List Expr),(∀ e∈l,wfE e)→szEs l≤800→allOks l
 | [],_,_=>trivial
 | e::r,hw,hs=>by
  unfold szEs at hs
  exact⟨sG e (hw e List.mem_cons_self) (by omega),Gt r (fun x hx=>hw x (List.mem_cons_of_mem _ hx)) (by omega)⟩
end
theorem Ez(a:Rat)(h:Vl a):(dC a).run=some (uq a):=by
 unfold dC uq
 have hr:=oI a (xM h (by omega))
 have e:∀ l:List Int,(((l.length:Int))==0)=l.isEmpty:=fun l=>by cases l<;>simp; omega
 rw[e,e]
 cases a.1 with
 | true=>rfl
 | false =>
  rw[za (by rfl)]
  cases a.2.1.isEmpty with
  | false=>rfl
  | true =>
   rw[zD]
   cases a.2.2.1.isEmpty with
   | true=>rfl
   | false=>rw[zr,z6 hr,z7]; rfl
theorem OR(a:Rat)(h:Vl a):(pA a).run=some (cE a):=by
 unfold pA cE
 have hr:=oI a (xM h (by omega))
 have hl:=yN a (xM h (by omega))
 have he:=ZN a (xM h (by omega))
 have head:((T.bind (ta a) fun r=>.ite (!r) (.ret true) (.ite a.1 (.ret true) (T.bind (uX a) fun r1=>.ret r1))):T Bool).run=some (!(eG a&&(!a.1 && !wX a))):=by
  rw[z6 hr]
  cases eG a with
  | false=>rfl
  | true =>
   rw[z8 (by rfl)]
   cases a.1 with
   | true=>rfl
   | false=>rw[zr,z6 hl,z7]; simp
 rw[z6 head]
 cases q:(eG a&&(!a.1 && !wX a))with
 | false =>
  rw[za (by rfl),z7]
  congr 1
  revert q
  cases eG a<;>cases a.1<;>cases wX a<;>simp
 | true =>
  rw[z8 (by rfl),z6 he]
  generalize xS (norm a).1 (nv (norm a).2.1) (nv (norm a).2.2.1) 0 61=x
  obtain⟨x1,x2⟩:=x
  dsimp only
  rw[z7]
  congr 1
  revert q
  cases eG a<;>cases a.1<;>cases wX a<;>simp
theorem RL(k:Int):(tF k).run=some (VP k):=by
 unfold tF VP
 by_cases h1:k=1
 ·subst h1; rfl
 by_cases h2:k=2
 ·subst h2; rfl
 by_cases h7:k=7
 ·subst h7; rfl
 by_cases h3:k=3
 ·subst h3; rfl
 by_cases h4:k=4
 ·subst h4; rfl
 by_cases h5:k=5
 ·subst h5; rfl
 by_cases h6:k=6
 ·subst h6; rfl
 ·simp[h1,h2,h3,h4,h5,h6,h7]
theorem Kq(e:Expr)(h:Vl e.num):(gH e).run=some (dW e):=by
 unfold gH dW
 rw[z6 (RL _)]
 have hN:=OR e.num h
 have h0:=Ez e.num h
 have hn:=dy e.name
 cases q:((e.kids.length:Int)==VP e.kind)with
 | false=>rw[za (by rw[bne,q]; rfl),z7]; rfl
 | true =>
  rw[z8 (by rw[bne,q]; rfl),Bool.true_and]
  by_cases h1:e.kind=1
  ·rw[if_pos h1,za (by rw[h1]; rfl),z6 hN]
   cases cE e.num with
   | true=>rw[zD,z7]; rfl
   | false=>rw[zr,z7]; rfl
  ·rw[if_neg h1,z8 (by simpa using h1)]
   by_cases h2:e.kind=2
   ·rw[if_pos h2,za (by rw[h2]; rfl),z6 h0]
    cases uq e.num with
    | true=>rw[zD,z6 hn,z7]; rfl
    | false=>rw[zr,z7]; rfl
   ·rw[if_neg h2,z8 (by simpa using h2),z6 h0]
    cases uq e.num with
    | true=>rw[zD,z7]; rfl
    | false=>rw[zr,z7]; rfl
theorem z1G(e:Expr)(deep left:Nat)(h:allOk e)(hl:xU e≤left)(iI:left≤100000)(hd:deep≤32):(jY e (deep:Int) (left:Int)).run=some (vf deep e,((left-Yq deep e:Nat):Int)):=by
 unfold jY
 refine jG (fun x:Expr×Int×Int=>allOk x.1∧0≤x.2.1∧x.2.1≤32∧(xU x.1:Int)≤x.2.2∧x.2.2≤100000) (fun x=>xU x.1) (fun x=>(vf x.2.1.toNat x.1,((x.2.2.toNat-Yq x.2.1.toNat x.1:Nat):Int))) (fun x hx g hg => ?_) (x:=(e,(deep:Int),(left:Int))) ⟨h,by dsimp only; omega,by dsimp only; omega,by dsimp only; omega,by dsimp only; omega⟩
 obtain⟨e,d,lf⟩:=x
 obtain⟨ha,F5,O3,hn,hlf⟩:=hx
 dsimp only at ha F5 O3 hn hlf
 obtain⟨D,rfl⟩:∃ D:Nat,d=(D:Int):=⟨d.toNat,by omega⟩
 obtain⟨L,rfl⟩:∃ L:Nat,lf=(L:Int):=⟨lf.toNat,by omega⟩
 cases e with | mk k n s kids =>
 obtain⟨Il,Dd⟩:=ha
 have Nh:xU (.mk k n s kids)=1+um kids:=by unfold xU; rfl
 rw[Nh]at hn
 have hv:=Jo kids (D+1)
 have ew:zu ((L:Int)-1)=((L-1:Nat):Int):=by rw[zQ (by omega) (by omega)]; omega
 have Rv:=Kq (.mk k n s kids) Il
 simp only[Int.toNat_natCast]
 unfold bC
 rw[ew]
 have head:((.ite (decide (((L-1:Nat):Int)<(0:Int))) (.ret (true,((L-1:Nat):Int))) (.ite (decide ((32:Int)≤(D:Int))) (.ret (true,((L-1:Nat):Int))) (T.bind (gH (.mk k n s kids)) fun r=>.ret ((!r),((L-1:Nat):Int))))):T (Bool×Int)).run =
   some (!(decide (D<32)&&dW (.mk k n s kids)),((L-1:Nat):Int)):=by
  rw[z8 (decide_eq_false (by omega))]
  by_cases c:D<32
  ·rw[z8 (decide_eq_false (by omega)),z6 Rv,z7,decide_eq_true c,Bool.true_and]
  ·rw[za (decide_eq_true (by omega)),z7,decide_eq_false c]; rfl
 rw[z6 head]
 dsimp only
 unfold vf Yq
 cases q:(decide (D<32)&&dW (.mk k n s kids))with
 | false =>
  rw[za (by rfl),z7,if_neg (by simp),← Bool.and_assoc,q,Bool.false_and]
 | true =>
  rw[z8 (by rfl),if_pos rfl,← Bool.and_assoc,q,Bool.true_and]
  have hD:D<32:=by
   simp only[Bool.and_eq_true,decide_eq_true_eq]at q
   exact q.1
  have ed:zu ((D:Int)+1)=((D+1:Nat):Int):=by rw[zQ (by omega) (by omega)]; omega
  have loop:∃ z,(q9 (fun y0 y1 y2=>g (y0,y1,y2)) kids (kids.length:Int) (((D:Int),()),((0:Int),((L-1:Nat):Int)))).run=some z ∧
    ((yd (D+1) kids=true∧z=.inl ((L-1-mT (D+1) kids:Nat):Int))∨(yd (D+1) kids=false∧∃ i:Int,0≤i∧z=.inr (i,((L-1-mT (D+1) kids:Nat):Int)))):=by
   refine T.xm (r:=zT (fun y0 y1 y2=>g (y0,y1,y2)) kids (kids.length:Int)) (fun st:(Int×Unit)×Int×Int=>∃ (j B:Nat),st=(((D:Int),()),(j:Int),(B:Int))∧j≤kids.length∧B≤100000∧um (kids.drop j)≤B ∧
    B-mT (D+1) (kids.drop j)=L-1-mT (D+1) kids∧yd (D+1) (kids.drop j)=yd (D+1) kids) (fun st=>kids.length-st.2.1.toNat) _ (fun st xR => ?_) ⟨0,L-1,rfl,by omega,by omega,by rw[List.drop_zero]; omega,by rw[List.drop_zero],by rw[List.drop_zero]⟩
   obtain⟨j,B,rfl,hj,hB,hnB,hvB,B7⟩:=xR
   by_cases c:j<kids.length
   ·have hdr:kids.drop j=kids[j]::kids.drop (j+1):=List.drop_eq_getElem_cons c
    rw[hdr]at hnB hvB B7
    rw[show um (kids[j]::kids.drop (j+1))=xU kids[j]+um (kids.drop (j+1))from rfl]at hnB
    rw[show mT (D+1) (kids[j]::kids.drop (j+1))=Yq (D+1) kids[j]+if vf (D+1) kids[j]=true then mT (D+1) (kids.drop (j+1))else 0 from rfl]at hvB
    rw[show yd (D+1) (kids[j]::kids.drop (j+1))=(vf (D+1) kids[j]&&yd (D+1) (kids.drop (j+1)))from rfl]at B7
    have Ul:=QD Dd _ (List.getElem_mem c)
    have R0:=Ml kids[j] (D+1)
    have Ir:xU kids[j]<1+um kids:=by have:=Xl (List.getElem_mem c); omega
    have B5:=hg (kids[j],((D+1:Nat):Int),(B:Int)) ⟨Ul,by dsimp only; omega,by dsimp only; omega,by dsimp only; omega,by dsimp only; omega⟩ (by dsimp only; rw[Nh]; exact Ir)
    dsimp only at B5
    simp only[Int.toNat_natCast]at B5
    have hf:(jB (fun y0 y1 y2=>g (y0,y1,y2)) kids[j] (D:Int) (B:Int)).run=some (!vf (D+1) kids[j],((B-Yq (D+1) kids[j]:Nat):Int)):=by
     unfold jB
     rw[ed,z6 B5]; rfl
    unfold zT
    dsimp only
    rw[za (qQ c),zc (zo c),xh c,z6 hf]
    dsimp only
    cases hk:vf (D+1) kids[j]with
    | true =>
     left
     rw[hk,if_pos rfl]at hvB
     rw[hk,Bool.true_and]at B7
     rw[z8 (by rfl),z7]
     have hlen:=W0 kids
     rw[vA j _ c (by omega)]
     refine⟨_,rfl,⟨j+1,B-Yq (D+1) kids[j],rfl,c,by omega,by omega,by omega,B7⟩,?_⟩
     simp only[Int.toNat_natCast]
     omega
    | false =>
     right
     rw[hk,if_neg (by simp),Nat.add_zero]at hvB
     rw[hk,Bool.false_and]at B7
     rw[za (by rfl),z7]
     exact⟨_,rfl,.inr ⟨B7.symm,(j:Int),by omega,by rw[hvB]⟩⟩
   ·right
    have hj2:j=kids.length:=by omega
    subst hj2
    rw[List.drop_length]at hvB B7
    unfold zT
    dsimp only
    rw[z8 (xo _),z7]
    exact⟨_,rfl,.inl ⟨B7.symm,by rw[← hvB]; rfl⟩⟩
  obtain⟨z,hz,hc⟩:=loop
  have hcf:(qm (fun y0 y1 y2=>g (y0,y1,y2)) kids ((D:Int),()) ((L-1:Nat):Int)).run=some (!yd (D+1) kids,((L-1-mT (D+1) kids:Nat):Int)):=by
   unfold qm xb
   rcases hc with⟨ho,rfl⟩ | ⟨ho,i,hi,rfl⟩
   ·have:((T.bind (q9 (fun y0 y1 y2=>g (y0,y1,y2)) kids (kids.length:Int) (((D:Int),()),((0:Int),((L-1:Nat):Int))))<|Sum.elim (fun v2=>.ret ((-1:Int),v2)) (fun(x2,v3)=>.ret (x2,v3))):T (Int×Int)).run=some (-1,((L-1-mT (D+1) kids:Nat):Int)):=by
     rw[z6 hz]; rfl
    rw[z6 this,ho]; rfl
   ·have:((T.bind (q9 (fun y0 y1 y2=>g (y0,y1,y2)) kids (kids.length:Int) (((D:Int),()),((0:Int),((L-1:Nat):Int))))<|Sum.elim (fun v2=>.ret ((-1:Int),v2)) (fun(x2,v3)=>.ret (x2,v3))):T (Int×Int)).run=some (i,((L-1-mT (D+1) kids:Nat):Int)):=by
     rw[z6 hz]; rfl
    rw[z6 this,ho,z7,decide_eq_true hi]; rfl
  rw[show Expr.kids (.mk k n s kids)=kids from rfl,z6 hcf]
  dsimp only
  rw[z7,Bool.not_not]
  congr 3
  omega
theorem TR(e:Expr)(h:allOk e)(hn:xU e≤256):(uJ e).run=some (vf 0 e):=by
 unfold uJ
 have:=z1G e 0 256 h hn (by omega) (by omega)
 have this:(jY e 0 256).run=some (vf 0 e,((256-Yq 0 e:Nat):Int)):=this
 rw[z6 this]; rfl
def dd(acc:List zf)(xs:List zf):List zf:=xs.foldl (fun b x=>if x∈b then b else b++[x]) acc
theorem WL(acc:List zf):dd acc []=acc:=rfl
theorem tX(acc:List zf)(x:zf)(r:List zf):dd acc (x::r)=dd (if x∈acc then acc else acc++[x]) r:=rfl
theorem Z0(acc a b:List zf):dd acc (a++b)=dd (dd acc a) b:=by unfold dd; rw[List.foldl_append]
theorem EI(acc xs:List zf)(x:zf):x∈dd acc xs↔x∈acc∨x∈xs:=by
 induction xs generalizing acc with
 | nil=>simp[WL]
 | cons y r ih =>
  rw[tX,ih,List.mem_cons]
  by_cases h:y∈acc
  ·rw[if_pos h]
   constructor
   ·rintro(a | b); exact .inl a; exact .inr (.inr b)
   ·rintro(a | b | c); exact .inl a; exact .inl (b▸h); exact .inr c
  ·rw[if_neg h,List.mem_append,List.mem_singleton,or_assoc]
theorem E3(b s xs:List zf):dd b (dd s xs)=dd (dd b s) xs:=by
 induction xs generalizing s with
 | nil=>rfl
 | cons y r ih =>
  rw[tX,ih,tX]
  by_cases h:y∈s
  ·rw[if_pos h,if_pos ((EI b s y).2 (.inr h))]
  ·rw[if_neg h,Z0,tX,WL]
theorem z3p(b xs:List zf):dd b (dd [] xs)=dd b xs:=by rw[E3,WL]
end Go.AM.Lf
namespace Go.AM.PL
def WD:zf→List zf×zf
 | []=>([],[])
 | b::r=>if b=10 then([]::(WD r).1,(WD r).2)else match(WD r).1 with
  | []=>([],b::(WD r).2)
  | l::ls=>((b::l)::ls,(WD r).2)
end Go.AM.PL
namespace Go.AM.Lf
open PL
def zhd(u:zf):Option Rat:=if 400<u.length then none else(z35 u).map fun p=>kZ (List.isPrefixOf [45] u) p.1 p.2
def zcd(t:zf):Option ItT:=match zhd (Tg t [32]).2.1 with
 | some r=>if w9 (Tg t [32]).1=true then some ((Tg t [32]).1,r,())else none
 | none=>none
def Sn:List zf→Option (List ItT)
 | []=>some []
 | t::r=>match zcd t with
  | some x=>(Sn r).map (x :: ·)
  | none=>none
theorem vv(s:zf):(uf s).run=some (w9 s):=by
 have hL:∀ b:UInt8,(jW (b.toNat:Int)).run=some (S8 b):=fun _=>rfl
 have hD:∀ b:UInt8,(oe (b.toNat:Int)).run=some (decide (48≤(b.toNat:Int))&&decide ((b.toNat:Int)≤57)):=fun _=>rfl
 unfold uf
 cases s with
 | nil=>rfl
 | cons b r =>
  by_cases c:24<(b::r).length
  ·have:(T.ite (decide (((b::r).length:Int)<(1:Int))) (.ret true) (.ite (decide ((24:Int)<((b::r).length:Int))) (.ret true) (.zd (zi (0:Int) (List.length (b::r)))<|T.bind (jW (wG (b::r) (0:Int))) fun r=>.ret (!r))):T Bool).run=some true:=by
    rw[z8 (decide_eq_false (by omega)),za (decide_eq_true (by omega)),z7]
   rw[z6 this,zD,z7]
   unfold w9
   rw[decide_eq_false (by omega)]; rfl
  ·have hb:wG (b::r) (0:Int)=(b.toNat:Int):=oT (s:=b::r) (k:=0) (by simp)
   have:(T.ite (decide (((b::r).length:Int)<(1:Int))) (.ret true) (.ite (decide ((24:Int)<((b::r).length:Int))) (.ret true) (.zd (zi (0:Int) (List.length (b::r)))<|T.bind (jW (wG (b::r) (0:Int))) fun r=>.ret (!r))):T Bool).run=some (!S8 b):=by
    rw[z8 (decide_eq_false (by simp only[List.length_cons]; omega)),z8 (decide_eq_false (by omega)),zc (by refine⟨by omega,?_⟩; simp only[List.length_cons]; omega),hb,z6 (hL b),z7]
   rw[z6 this]
   unfold w9
   dsimp only
   rw[decide_eq_true (by omega),Bool.true_and]
   cases hbl:S8 b with
   | false=>rw[za (by rfl),z7]; rfl
   | true =>
    rw[z8 (by rfl),Bool.true_and]
    have hbi:Qs b=true:=by unfold Qs; rw[hbl]; rfl
    have key:(XG (b::r) 1).run=some (if r.all Qs=true then .inl ()else .inr false):=by
     have z05:=uo (r:=y7 (b::r)) (fun i=>∃ k:Nat,i=((k+1:Nat):Int)∧k≤r.length) (fun i=>((b::r).length:Int).toNat-i.toNat) (fun i=>if(r.drop (i.toNat-1)).all Qs=true then .inl ()else .inr false) (fun i hi => ?_) (s:=1) ⟨0,rfl,by omega⟩
     ·exact z05
     ·obtain⟨k,rfl,hk⟩:=hi
      have ek:((k+1:Nat):Int).toNat-1=k:=by omega
      by_cases q:k<r.length
      ·have hq:k+1<(b::r).length:=by simp only[List.length_cons]; omega
       have Ei:wG (b::r) ((k+1:Nat):Int)=(r[k].toNat:Int):=by rw[oT hq]; rfl
       have CP:r.drop k=r[k]::r.drop (k+1):=List.drop_eq_getElem_cons q
       have XR:((.zd (zi ((k+1:Nat):Int) (List.length (b::r)))<|T.bind (jW (wG (b::r) ((k+1:Nat):Int))) fun r1 =>
         .ite (!r1) (.zd (zi ((k+1:Nat):Int) (List.length (b::r)))<|T.bind (oe (wG (b::r) ((k+1:Nat):Int))) fun r2 =>
           .ite (!r2) (.zd (zi ((k+1:Nat):Int) (List.length (b::r)))<|.ret ((wG (b::r) ((k+1:Nat):Int)) != (95:Int))) (.ret false)) (.ret false)):T Bool).run=some (!Qs r[k]):=by
        rw[zc (zo hq),Ei,z6 (hL _)]
        unfold Qs
        cases S8 r[k]with
        | true=>rfl
        | false =>
         rw[za (by rfl),zc (zo hq),z6 (hD _)]
         cases(decide (48≤(r[k].toNat:Int))&&decide ((r[k].toNat:Int)≤57))with
         | true=>rfl
         | false=>rw[za (by rfl),zc (zo hq),z7]; rfl
       cases hik:Qs r[k]with
       | true =>
        left
        refine⟨((k+1+1:Nat):Int),?_,⟨k+1,rfl,q⟩,by simp only[List.length_cons]; omega,?_⟩
        ·unfold y7
         rw[za (qQ hq),z6 XR,hik,z8 (by rfl),z7,vA (k+1) _ hq (by omega)]
        ·rw[ek,CP,List.all_cons,hik,Bool.true_and,show((k+1+1:Nat):Int).toNat-1=k+1 by omega]
       | false =>
        right
        unfold y7
        rw[za (qQ hq),z6 XR,hik,za (by rfl),z7,ek,CP,List.all_cons,hik]
        rfl
      ·right
       have gk:k=r.length:=by omega
       unfold y7
       rw[z8 (decide_eq_false (by simp only[List.length_cons]; omega)),z7,ek,gk,List.drop_length]; rfl
    rw[z6 key,List.all_cons,hbi,Bool.true_and]
    cases h:r.all Qs with
    | true=>rfl
    | false=>rfl
def zej(l:List ItT):zf:=l.flatMap zcU
def Jd(s:zf):List ItT×Int:=match Sn (WD s).1 with
 | some ys=>if zej ys=s then(ys,0)else([],2)
 | none=>([],2)
theorem zf8(a b:Rat):((a.1==b.1)&&((a.2.1==b.2.1)&&(a.2.2.1==b.2.2.1)))=true↔a=b:=by
 obtain⟨a1,a2,a3,⟨⟩⟩:=a
 obtain⟨b1,b2,b3,⟨⟩⟩:=b
 simp only[Bool.and_eq_true,beq_iff_eq,Prod.mk.injEq,and_true]
theorem Si(a:Rat)(h1:zw a.2.1)(h2:zw a.2.2.1):eG a=true↔norm a=a:=by
 unfold eG norm
 obtain⟨b,N,D,⟨⟩⟩:=a
 dsimp only at h1 h2 ⊢
 simp only[Bool.and_eq_true,Bool.not_eq_true',beq_eq_false_iff_ne,beq_iff_eq,Bool.and_eq_false_imp]
 constructor
 ·rintro⟨t1,t2,hd,hn,hg⟩
  have eN:zJ (nv N)=N:=Qd h1 ((ju h1).1 t1)
  have eD:zJ (nv D)=D:=Qd h2 ((ju h2).1 t2)
  unfold kZ
  by_cases c:nv N=0
  ·rw[if_pos (.inl c)]
   rw[c,Nat.gcd_zero_left]at hg
   rw[c,qz]at eN
   rw[hg,lG]at eD
   cases b with
   | true=>exact absurd c (hn rfl)
   | false=>rw[← eN,← eD]
  ·rw[if_neg (by rintro(h | h); exact c h; exact hd h),hg,Nat.div_one,Nat.div_one,eN,eD]
 ·intro e
  unfold kZ at e
  by_cases c:nv N=0∨nv D=0
  ·rw[if_pos c]at e
   simp only[Prod.mk.injEq,and_true]at e
   obtain⟨rfl,rfl,rfl⟩:=e
   refine⟨by rw[ju h1]; exact WT,?_,by decide,by simp,by decide⟩
   rw[ju h2,← lG]; exact Z5 _
  ·rw[if_neg c]at e
   simp only[Prod.mk.injEq,and_true,true_and]at e
   obtain⟨e1,e2⟩:=e
   simp only[not_or]at c
   have v1:nv N=nv N / Nat.gcd (nv N) (nv D):=by conv=>lhs; rw[← e1,zS]
   refine⟨by rw[ju h1,← e1]; exact Z5 _,by rw[ju h2,← e2]; exact Z5 _,c.2,fun _=>c.1,?_⟩
   have hp:0<nv N:=Nat.pos_of_ne_zero c.1
   by_cases g:Nat.gcd (nv N) (nv D)=1
   ·exact g
   ·have hg0:0<Nat.gcd (nv N) (nv D):=Nat.gcd_pos_of_pos_left _ hp
    have:=Nat.div_lt_self hp (by omega:1<Nat.gcd (nv N) (nv D))
    omega
theorem cr(a b:List Int)(la:a.length≤1000000000):(jc a b).run=some (a==b):=by
 unfold jc
 by_cases hlen:a.length=b.length
 ·have key:(cY a b 0).run=some (if a=b then .inl ()else .inr false):=by
   have h:=uo (r:=wP a b) (fun i=>∃ k:Nat,i=(k:Int)∧k≤a.length) (fun i=>a.length-i.toNat) (fun i=>if a.drop i.toNat=b.drop i.toNat then .inl ()else .inr false) (fun i hi => ?_) (s:=0) ⟨0,rfl,by omega⟩
   ·unfold cY; simpa using h
   ·obtain⟨k,rfl,hk⟩:=hi
    by_cases c:k<a.length
    ·have cb:k<b.length:=by omega
     have ea:a.drop k=a[k]::a.drop (k+1):=List.drop_eq_getElem_cons c
     have eb:b.drop k=b[k]::b.drop (k+1):=List.drop_eq_getElem_cons cb
     have ek:((k:Nat):Int).toNat=k:=rfl
     have SP:(a.drop k=b.drop k)↔(a[k]=b[k]∧a.drop (k+1)=b.drop (k+1)):=by rw[ea,eb,List.cons.injEq]
     have ek1:((k+1:Nat):Int).toNat=k+1:=rfl
     by_cases q:a[k]=b[k]
     ·left
      refine⟨((k+1:Nat):Int),?_,⟨k+1,rfl,c⟩,by omega,?_⟩
      ·unfold wP
       rw[za (qQ c),zc (zo c),zc (zo cb),xh c,xh cb,z8 (by simp[q]),z7,vA k _ c (by omega)]
      ·simp only[ek,ek1,SP,q,true_and]
     ·right
      unfold wP
      rw[za (qQ c),zc (zo c),zc (zo cb),xh c,xh cb,za (by simp[q]),z7,ek,if_neg (by rw[SP]; exact fun h=>q h.1)]
    ·right
     have gk:k=a.length:=by omega
     unfold wP
     rw[z8 (decide_eq_false (by omega)),z7,gk]
     simp[hlen]
  rw[z8 (by rw[hlen]; simp),z6 key]
  by_cases e:a=b
  ·rw[if_pos e,e]; simp
  ·rw[if_neg e]
   have:(a==b)=false:=by simpa using e
   rw[this]; rfl
 ·have e:(a==b)=false:=by
   rw[beq_eq_false_iff_ne]
   intro e; exact hlen (by rw[e])
  rw[za (by simp; omega),z7,e]
theorem VI(a:Rat)(h:qS 100000000 a):(Wp a).run=some (eG a):=by
 unfold Wp
 have hb:eG a=((a.1==(norm a).1)&&((a.2.1==(norm a).2.1)&&(a.2.2.1==(norm a).2.2.1))):=by
  rw[Bool.eq_iff_iff,Si a h.1 h.2.1,zf8]
  exact⟨fun e=>e.symm,fun e=>e.symm⟩
 rw[z6 (xA a h),hb]
 cases a.1==(norm a).1 with
 | false=>rfl
 | true =>
  rw[zD,z6 (cr _ _ (by have:=h.2.2.1; omega))]
  cases a.2.1==(norm a).2.1 with
  | false=>rfl
  | true=>rw[zD,z6 (cr _ _ (by have:=h.2.2.2; omega)),z7]; rfl
theorem iv(a:Rat)(h:qS 100000000 a):(kg a).run=some (wX a):=by
 unfold kg wX
 rw[z6 (xA a h),z7]
 congr 2
 ·exact decide_eq_decide.2 (by omega)
 ·exact decide_eq_decide.2 (by omega)
theorem mo(a:Rat)(h:qS 100000000 a):(cC a).run=some (eG a && !wX a):=by
 unfold cC
 rw[z6 (VI a h)]
 cases eG a with
 | false=>rfl
 | true=>rw[zD,z6 (iv a h),z7]; rfl
theorem Oi(a:Rat)(h:Vl a):(jQ a).run=some (uq a):=by
 unfold jQ uq
 have hr:=VI a (xM h (by omega))
 have e:∀ l:List Int,(((l.length:Int))==0)=l.isEmpty:=fun l=>by cases l<;>simp; omega
 rw[e,e]
 cases a.1 with
 | true=>rfl
 | false =>
  rw[za (by rfl)]
  cases a.2.1.isEmpty with
  | false=>rfl
  | true =>
   rw[zD]
   cases a.2.2.1.isEmpty with
   | true=>rfl
   | false=>rw[zr,z6 hr,z7]; rfl
theorem Ss(g:Expr×Int→T Bool)(kids:List Expr)(k0:Int)(n0:Rat)(s0:zf)(D:Nat)(hl:kids.length≤100000)
  (hg:∀ e∈kids,(g (e,zu (((D+1:Nat):Int)+1))).run=some (vf (D+1) e)) :
  (si (fun y0 y1=>g (y0,y1)) ((D+1:Nat):Int) (.mk k0 n0 s0 kids) (kids.length:Int) 0).run=some (if yd (D+1) kids=true then .inl ()else .inr false):=by
 refine T.jt (r:=dN (fun y0 y1=>g (y0,y1)) ((D+1:Nat):Int) (.mk k0 n0 s0 kids) (kids.length:Int)) kids (zb .expr) (fun(_:Unit) i=>i) (fun _ _=>True) (fun l _=>(if yd (D+1) l=true then .inl ()else .inr false:Unit⊕Bool)) (fun k _ x xs hk hx hm hd hI => ?_) (fun _ _ => ?_) (b:=()) trivial
 ·have Fi:=hg x hm
  have ek:Expr.kids (.mk k0 n0 s0 kids)=kids:=rfl
  unfold dN
  rw[za (qQ hk),ek,zc (zo hk),hx,z6 Fi]
  cases q:vf (D+1) x with
  | true =>
   left
   refine⟨(),?_,trivial,?_⟩
   ·rw[z8 (by rfl),z7,vA k _ hk (by omega)]
   ·show _=(if(vf (D+1) x&&yd (D+1) xs)=true then _ else _)
    rw[q,Bool.true_and]
  | false =>
   right
   rw[za (by rfl),z7]
   show _=some (Sum.inr (if(vf (D+1) x&&yd (D+1) xs)=true then _ else _))
   rw[q,Bool.false_and]; rfl
 ·unfold dN
  rw[z8 (xo _),z7]; rfl
theorem Mg(e:Expr)(deep:Nat)(h:allOk e)(hn:xU e≤100000)(hd:deep≤32):(nu e ((deep+1:Nat):Int)).run=some (vf deep e):=by
 unfold nu
 refine jG (fun x:Expr×Int=>allOk x.1∧xU x.1≤100000∧1≤x.2∧x.2≤33) (fun x=>xU x.1) (fun x=>vf (x.2.toNat-1) x.1) (fun x hx g hg => ?_) (x:=(e,((deep+1:Nat):Int))) ⟨h,hn,by dsimp only; omega,by dsimp only; omega⟩
 obtain⟨e,d⟩:=x
 obtain⟨ha,hn,F5,O3⟩:=hx
 dsimp only at ha hn F5 O3
 obtain⟨D,rfl⟩:∃ D:Nat,d=((D+1:Nat):Int):=⟨d.toNat-1,by omega⟩
 cases e with | mk k n s kids =>
 obtain⟨Il,Dd⟩:=ha
 have Nh:xU (.mk k n s kids)=1+um kids:=rfl
 have hlen:=W0 kids
 have SK:(((D+1:Nat):Int)).toNat-1=D:=by omega
 dsimp only
 rw[SK]
 unfold oH
 show _=some (decide (D<32)&&(dW (.mk k n s kids)&&yd (D+1) kids))
 by_cases c:D<32
 ·rw[z8 (decide_eq_false (by omega)),decide_eq_true c,Bool.true_and]
  have hN:=sZ n (xM Il (by omega))
  have hG:=mo n (xM Il (by omega))
  have hB:=Oi n Il
  have hNm:=vv s
  have e0:∀ m:Nat,(((m:Int))==0)=(((m:Int))==(0:Int)):=fun _=>rfl
  have B5:∀ e∈kids,(g (e,zu (((D+1:Nat):Int)+1))).run=some (vf (D+1) e):=fun e he=>by
   have hm:=Xl he
   have ew:zu (((D+1:Nat):Int)+1)=((D+1+1:Nat):Int):=by rw[zQ (by omega) (by omega)]; omega
   have:=hg (e,((D+1+1:Nat):Int)) ⟨QD Dd e he,by dsimp only; omega,by dsimp only; omega,by dsimp only; omega⟩ (by dsimp only; rw[Nh]; omega)
   rw[ew,this]
   dsimp only
   rw[show(((D+1+1:Nat):Int)).toNat-1=D+1 by omega]
  have z05:=Ss g kids k n s D (by omega) B5
  have zcv:Expr.kids (.mk k n s kids)=kids:=rfl
  have zc0:Expr.kind (.mk k n s kids)=k:=rfl
  have zde:Expr.name (.mk k n s kids)=s:=rfl
  have zcj:Expr.num (.mk k n s kids)=n:=rfl
  have tail:∀ kd:Int,(T.bind (.ite ((Nat.cast (List.length kids):Int) != kd) (.ret true) (.ite (!(zM s ([]:zf))) (.ret true) (T.bind (jQ n) fun r4=>.ret (!r4))):T Bool) fun x1 =>
     .ite x1 (.ret false) (T.bind (si (fun y0 y1=>g (y0,y1)) ((D+1:Nat):Int) (.mk k n s kids) kd (0:Int))<|Sum.elim (fun _=>.ret true) (fun x2=>.ret x2)):T Bool).run =
     some (((kids.length:Int)==kd)&&((uq n&&zM s [])&&yd (D+1) kids)):=by
   intro kd
   have head:(.ite ((Nat.cast (List.length kids):Int) != kd) (.ret true) (.ite (!(zM s ([]:zf))) (.ret true) (T.bind (jQ n) fun r4=>.ret (!r4))):T Bool).run=some (!(((kids.length:Int)==kd)&&(uq n&&zM s []))):=by
    cases q:((kids.length:Int)==kd)with
    | false=>rw[za (by rw[bne,q]; rfl)]; rfl
    | true =>
     rw[z8 (by rw[bne,q]; rfl)]
     cases zM s []with
     | false=>rw[za (by rfl),z7,Bool.and_false]; rfl
     | true=>rw[z8 (by rfl),z6 hB,z7,Bool.and_true,Bool.true_and]
   rw[z6 head]
   cases q:((kids.length:Int)==kd)with
   | false=>rfl
   | true =>
    have hkd:kd=(kids.length:Int):=by
     have:(kids.length:Int)=kd:=by simpa using q
     exact this.symm
    subst hkd
    rw[Bool.true_and,Bool.true_and]
    cases(uq n&&zM s [])with
    | false=>rfl
    | true =>
     rw[z8 (by rfl),z6 z05,Bool.true_and]
     cases yd (D+1) kids<;>rfl
  unfold dW VP
  rw[zcv,zc0,zde,zcj]
  by_cases h1:k=1
  ·subst h1
   have head:(T.bind (cy n) fun(r,ok)=>.ite ((Nat.cast (List.length kids):Int)==(0:Int)) (.ite (zM s ([]:zf)) (T.bind (cC n) fun r1=>.ite r1 (.ite (!n.1) (.ret (.inr ok)) (.ret (.inr false))) (.ret (.inr false))) (.ret (.inr false))) (.ret (.inr false)):T (Int⊕Bool)).run=some (.inr (((kids.length:Int)==0)&&(cE n&&zM s []))):=by
    rw[z6 hN]
    unfold cE
    generalize xS (norm n).1 (nv (norm n).2.1) (nv (norm n).2.2.1) 0 61=x
    obtain⟨x1,x2⟩:=x
    dsimp only
    cases(Nat.cast (List.length kids):Int)==(0:Int)with
    | false=>rfl
    | true =>
     rw[zD]
     cases zM s []with
     | false=>rw[zr,z7,Bool.and_false]; rfl
     | true =>
      rw[zD,z6 hG]
      cases eG n<;>cases wX n<;>cases n.1<;>cases x2<;>rfl
   refine(z6 (a:=.inr (((kids.length:Int)==0)&&(cE n&&zM s []))) ?_ _).trans ?_
   ·rw[za (by rfl)]; exact head
   ·rw[Sum.elim_inr,z7,if_pos (.inl rfl),if_pos rfl]
    cases q:((kids.length:Int)==0)with
    | false=>rfl
    | true =>
     have:kids=[]:=List.eq_nil_of_length_eq_zero (by have:(kids.length:Int)=0:=(by simpa using q); omega)
     subst this
     show _=some (true&&(cE n&&zM s [])&&true)
     rw[Bool.and_true]
  ·by_cases h2:k=2
   ·subst h2
    have head:(.ite ((Nat.cast (List.length kids):Int)==(0:Int)) (T.bind (uf s) fun r2=>.ite r2 (T.bind (jQ n) fun r3=>.ret (.inr r3)) (.ret (.inr false))) (.ret (.inr false)):T (Int⊕Bool)).run=some (.inr (((kids.length:Int)==0)&&(uq n&&w9 s))):=by
     cases(Nat.cast (List.length kids):Int)==(0:Int)with
     | false=>rfl
     | true =>
      rw[zD,z6 hNm]
      cases w9 s with
      | false=>rw[zr,z7,Bool.and_false]; rfl
      | true=>rw[zD,z6 hB,z7,Bool.and_true,Bool.true_and]
    refine(z6 (a:=.inr (((kids.length:Int)==0)&&(uq n&&w9 s))) ?_ _).trans ?_
    ·rw[z8 (by rfl),za (by rfl)]; exact head
    ·rw[Sum.elim_inr,z7,if_pos (.inr rfl),if_neg (by decide),if_pos rfl]
     cases q:((kids.length:Int)==0)with
     | false=>rfl
     | true =>
      have:kids=[]:=List.eq_nil_of_length_eq_zero (by have:(kids.length:Int)=0:=(by simpa using q); omega)
      subst this
      show _=some (true&&(uq n&&w9 s)&&true)
      rw[Bool.and_true]
   ·have k1:(k==1)=false:=by simpa using h1
    have k2:(k==2)=false:=by simpa using h2
    have fin:∀ kd:Int,(if k=7 then(1:Int)else if k=3∨k=4∨k=5∨k=6 then 2 else -1)=kd→((((kids.length:Int)==kd)&&((uq n&&zM s [])&&yd (D+1) kids))) =
      ((((kids.length:Int)==(if k=1∨k=2 then(0:Int)else if k=7 then 1 else if k=3∨k=4∨k=5∨k=6 then 2 else -1))&&(if k=1 then cE n&&zM s []else if k=2 then uq n&&w9 s else uq n&&zM s []))&&yd (D+1) kids):=by
     intro kd hkd
     rw[if_neg (by rintro(h | h); exact h1 h; exact h2 h),hkd,if_neg h1,if_neg h2]
     simp only[Bool.and_assoc]
    by_cases h7:k=7
    ·refine(z6 (a:=.inl 1) ?_ _).trans ?_
     ·rw[z8 k1,z8 k2,za (by simpa using h7),z7]
     ·rw[Sum.elim_inl,← fin 1 (by rw[if_pos h7])]; exact tail 1
    ·have k7:(k==7)=false:=by simpa using h7
     by_cases h3:k=3
     ·refine(z6 (a:=.inl 2) ?_ _).trans ?_
      ·rw[z8 k1,z8 k2,z8 k7,za (by simpa using h3),z7]
      ·rw[Sum.elim_inl,← fin 2 (by rw[if_neg h7,if_pos (.inl h3)])]; exact tail 2
     ·have k3:(k==3)=false:=by simpa using h3
      by_cases h4:k=4
      ·refine(z6 (a:=.inl 2) ?_ _).trans ?_
       ·rw[z8 k1,z8 k2,z8 k7,z8 k3,za (by simpa using h4),z7]
       ·rw[Sum.elim_inl,← fin 2 (by rw[if_neg h7,if_pos (.inr (.inl h4))])]; exact tail 2
      ·have k4:(k==4)=false:=by simpa using h4
       by_cases h5:k=5
       ·refine(z6 (a:=.inl 2) ?_ _).trans ?_
        ·rw[z8 k1,z8 k2,z8 k7,z8 k3,z8 k4,za (by simpa using h5),z7]
        ·rw[Sum.elim_inl,← fin 2 (by rw[if_neg h7,if_pos (.inr (.inr (.inl h5)))])]; exact tail 2
       ·have k5:(k==5)=false:=by simpa using h5
        by_cases h6:k=6
        ·refine(z6 (a:=.inl 2) ?_ _).trans ?_
         ·rw[z8 k1,z8 k2,z8 k7,z8 k3,z8 k4,z8 k5,za (by simpa using h6),z7]
         ·rw[Sum.elim_inl,← fin 2 (by rw[if_neg h7,if_pos (.inr (.inr (.inr h6)))])]; exact tail 2
        ·have k6:(k==6)=false:=by simpa using h6
         refine(z6 (a:=.inr false) ?_ _).trans ?_
         ·rw[z8 k1,z8 k2,z8 k7,z8 k3,z8 k4,z8 k5,z8 k6,z7]
         ·rw[Sum.elim_inr,z7,← fin (-1) (by rw[if_neg h7,if_neg (by rintro(h | h | h | h)<;>contradiction)])]
          have:((kids.length:Int) == -1)=false:=by simp
          rw[this]; rfl
 ·rw[za (decide_eq_true (by omega)),z7,decide_eq_false c]; rfl
theorem bf(l:List zf)(s:zf)(hl:l.length≤1000000000):(yV l s).run=some (decide (s∈l)):=by
 have key:(VW l s 0).run=some (if s∈l then .inr true else .inl ()):=by
  refine T.jt (r:=dn l s) l (zb .str) (fun(_:Unit) i=>i) (fun _ _=>True) (fun l _=>(if s∈l then .inr true else .inl ():Unit⊕Bool)) (fun k _ x xs hk hx hm hd hI => ?_) (fun _ _ => ?_) (b:=()) trivial
  ·unfold dn
   rw[za (qQ hk),zc (zo hk),hx,wx]
   by_cases q:x=s
   ·right
    rw[za (decide_eq_true q),z7,if_pos (by simp[q])]
   ·left
    refine⟨(),?_,trivial,?_⟩
    ·rw[z8 (decide_eq_false q),z7,vA k _ hk (by omega)]
    ·have:(s∈x::xs)↔s∈xs:=by rw[List.mem_cons]; exact⟨fun h=>h.resolve_left fun e=>q e.symm,.inr⟩
     simp only[this]
  ·unfold dn
   rw[z8 (xo _),z7,if_neg (by simp)]
 unfold yV
 rw[z6 key]
 by_cases h:s∈l
 ·rw[if_pos h,decide_eq_true h]; rfl
 ·rw[if_neg h,decide_eq_false h]; rfl
theorem Fx(xs acc:List zf):(dd acc xs).length≤acc.length+xs.length:=by
 induction xs generalizing acc with
 | nil=>simp[WL]
 | cons x r ih =>
  rw[tX]
  have:=ih (if x∈acc then acc else acc++[x])
  have h2:(if x∈acc then acc else acc++[x]).length≤acc.length+1:=by split<;>simp
  simp only[List.length_cons]; omega
mutual
theorem Kh:∀ e:Expr,(allE e).length≤bkE e
 | .mk k n s l=>by
  have:=GL l
  unfold allE bkE
  rw[List.length_append]
  split<;>simp<;>omega
theorem GL:∀ l:List Expr,(allEs l).length≤bkEs l
 | []=>by simp[allEs]
 | e::r=>by
  have h1:=Kh e
  have h2:=GL r
  unfold allEs bkEs
  rw[List.length_append]; omega
end
theorem Da(g:Expr→T (List zf))(e:Expr)(i:Int)(m acc:List zf)(hm:m.length≤10000000)(ha:acc.length≤10000000) :
  (ZC (fun y0=>g y0) e i m (0,acc)).run=some (dd acc m):=by
 have key:=T.nq (r:=yG (fun y0=>g y0) e i m) m (zb .str) (fun(b:List zf) i=>(i,b)) (fun k b=>b.length≤acc.length+k) (fun b x=>if x∈b then b else b++[x]) id (fun k b x hk hx hm' hI => ?_) (fun b hI => ?_) (b:=acc) (by simp)
 ·exact key.1
 ·have hH:=bf b x (by omega)
  unfold yG
  dsimp only
  rw[za (qQ hk),zc (zo hk),hx,T.zk,Nat.zero_add,List.take_length,List.drop_zero,z6 hH]
  by_cases q:x∈b
  ·rw[decide_eq_true q,if_pos q,z8 (by rfl),ze _ rfl rfl rfl,T.zk,z7,vA k _ hk (by omega)]
   exact⟨rfl,by omega⟩
  ·rw[decide_eq_false q,if_neg q,za (by rfl),zc (zo hk),xi _ rfl rfl rfl (by omega),ze _ (by simp) rfl (by simp),zc (by simp),z7,vA k _ hk (by omega)]
   exact⟨rfl,by simp; omega⟩
 ·unfold yG
  dsimp only
  rw[z8 (xo _),ze _ rfl rfl rfl,T.zk,z7]; rfl
theorem rH(e:Expr)(hb:bkE e≤1000000):(ir e).run=some (dd [] (allE e)):=by
 unfold ir
 refine jG (fun x:Expr=>bkE x≤1000000) (fun x=>bkE x) (fun x=>dd [] (allE x)) (fun x hx g hg => ?_) (x:=e) hb
 have hk:=gN x
 have FK:=iR x.kids
 have loop:∀ acc:List zf,acc.length≤1→(yR (fun y0=>g y0) x (0,acc)).run=some (dd acc (allEs x.kids)):=by
  intro acc IB
  have key:=ny (r:=yu (fun y0=>g y0) x) x.kids (zb .expr) (fun(b:List zf) i=>(i,b)) (fun b r=>b.length+bkEs r≤1+bkEs x.kids∧∀ y∈r,y∈x.kids) (fun r b=>dd b (allEs r)) ?_ ?_ ⟨(by omega:acc.length+bkEs x.kids≤1+bkEs x.kids),fun y hy=>hy⟩
  ·exact key
  ·rintro b y ys i h0 hi hy ⟨h1,h2⟩
   obtain⟨j,rfl⟩:∃ j:Nat,i=(j:Int):=⟨i.toNat,by omega⟩
   have hj:j<x.kids.length:=by omega
   simp only[bkEs]at h1
   have hm:=gV (h2 y List.mem_cons_self)
   have hr:=hg y (by omega) (by omega)
   have hl:=Kh y
   have hd:=Fx (allE y) []
   simp only[List.length_nil]at hd
   have XR:=Da g x (j:Int) (dd [] (allE y)) b (by omega) (by omega)
   rw[z3p]at XR
   have hbl:=Fx (allE y) b
   refine .inl ⟨dd b (allE y),?_,⟨by omega,fun z hz=>h2 z (List.mem_cons_of_mem _ hz)⟩,?_⟩
   ·unfold yu
    dsimp only
    rw[za (decide_eq_true hi),zc ⟨h0,hi⟩,hy,z6 hr,ze _ rfl rfl rfl,T.zk,z6 XR,ze _ rfl rfl rfl,T.zk,z7,zQ (by omega) (by omega)]
   ·show dd (dd b (allE y)) (allEs ys)=dd b (allE y++allEs ys)
    rw[Z0]
  ·rintro b _
   unfold yu
   dsimp only
   rw[z8 (xo _),ze _ rfl rfl rfl,T.zk,z7]; rfl
 unfold fk
 cases x with | mk k n s kids =>
 by_cases h2:k=2
 ·subst h2
  have hL:=loop [s] (by simp)
  have hL:(yR (fun y0=>g y0) (.mk 2 n s kids) ((0:Int),([Expr.name (.mk 2 n s kids)]:List zf))).run=some (dd [s] (allEs kids)):=hL
  rw[za (by rfl),zG _ (by omega),ze _ rfl rfl rfl,T.zk,z6 hL,T.zk,z7,Nat.zero_add,List.take_length,List.drop_zero]
  rfl
 ·have hL:=loop [] (by simp)
  have hL:(yR (fun y0=>g y0) (.mk k n s kids) ((0:Int),([]:List zf))).run=some (dd [] (allEs kids)):=hL
  rw[z8 (by show(k==2)=false; simpa using h2),ze _ rfl rfl rfl,T.zk,z6 hL,T.zk,z7,Nat.zero_add,List.take_length,List.drop_zero]
  show some (dd [] (allEs kids))=some (dd [] ((if k=2 then[s]else[])++allEs kids))
  rw[if_neg h2]; rfl
theorem XO(e:Expr)(F:List zf)(hb:bkE e≤1000000)(hF:F.length≤1000000000):(bg e F).run=some (oa e F):=by
 have hN:=rH e hb
 have hl:=Fx (allE e) []
 have iI:=Kh e
 simp only[List.length_nil]at hl
 have key:∀ l:List zf,l.length≤1000000000→(Vq F l 0).run=some (if ∃ x∈l,x∈F then .inr true else .inl ()):=by
  intro l hl
  refine T.jt (r:=dO F l) l (zb .str) (fun(_:Unit) i=>i) (fun _ _=>True) (fun l _=>(if ∃ x∈l,x∈F then .inr true else .inl ():Unit⊕Bool)) (fun k _ x xs hk hx hm hd hI => ?_) (fun _ _ => ?_) (b:=()) trivial
  ·unfold dO
   rw[za (qQ hk),zc (zo hk),hx,z6 (bf F x hF)]
   by_cases q:x∈F
   ·right
    rw[decide_eq_true q,za (by rfl),z7,if_pos ⟨x,List.mem_cons_self,q⟩]
   ·left
    refine⟨(),?_,trivial,?_⟩
    ·rw[decide_eq_false q,z8 (by rfl),z7,vA k _ hk (by omega)]
    ·have:(∃ y∈x::xs,y∈F)↔∃ y∈xs,y∈F:=by
      constructor
      ·rintro⟨y,hy,hf⟩
       rcases List.mem_cons.1 hy with rfl | hy
       ·exact absurd hf q
       ·exact⟨y,hy,hf⟩
      ·rintro⟨y,hy,hf⟩; exact⟨y,List.mem_cons_of_mem _ hy,hf⟩
     simp only[this]
  ·unfold dO
   rw[z8 (xo _),z7,if_neg (by simp)]
 unfold bg
 rw[z6 hN,z6 (key _ (by omega))]
 have SP:(∃ x∈dd [] (allE e),x∈F)↔oa e F=true:=by
  rw[z0l]
  constructor
  ·rintro⟨x,hx,hf⟩
   rcases(EI _ _ _).1 hx with h | h
   ·cases h
   ·exact⟨x,h,hf⟩
  ·rintro⟨x,hx,hf⟩; exact⟨x,(EI _ _ _).2 (.inr hx),hf⟩
 by_cases h:oa e F=true
 ·rw[if_pos (SP.2 h),h]; rfl
 ·rw[if_neg (fun z=>h (SP.1 z)),Bool.not_eq_true _ |>.mp h]; rfl
theorem pK(e:Expr)(F:List zf)(hb:bkE e≤1000000)(hF:F.length≤1000000000):(dr e F).run=some (dH F e):=by
 unfold dr
 refine jG (fun x:Expr×List zf=>bkE x.1≤1000000∧x.2=F) (fun x=>bkE x.1) (fun x=>dH F x.1) (fun x hx g hg => ?_) (x:=(e,F)) ⟨hb,rfl⟩
 obtain⟨x,F'⟩:=x
 obtain⟨hx,rfl⟩:=hx
 dsimp only at hx
 have hk:=gN x
 have FK:=iR x.kids
 have loop:(sM (fun y0 y1=>g (y0,y1)) F' x 0).run=some (if rL F' x.kids=true then .inl ()else .inr false):=by
  refine T.jt (r:=kH (fun y0 y1=>g (y0,y1)) F' x) x.kids (zb .expr) (fun(_:Unit) i=>i) (fun _ _=>True) (fun l _=>(if rL F' l=true then .inl ()else .inr false:Unit⊕Bool)) (fun k _ y ys Y4 hy hm hd hI => ?_) (fun _ _ => ?_) (b:=()) trivial
  ·have hm:=gV hm
   have hr:=hg (y,F') ⟨by dsimp only; omega,rfl⟩ (by dsimp only; omega)
   dsimp only at hr
   unfold kH
   rw[za (qQ Y4),zc (zo Y4),hy,z6 hr]
   cases q:dH F' y with
   | true =>
    left
    refine⟨(),?_,trivial,?_⟩
    ·rw[z8 (by rfl),z7,vA k _ Y4 (by omega)]
    ·show _=(if(dH F' y&&rL F' ys)=true then _ else _)
     rw[q,Bool.true_and]
   | false =>
    right
    rw[za (by rfl),z7]
    show _=some (Sum.inr (if(dH F' y&&rL F' ys)=true then _ else _))
    rw[q,Bool.false_and]; rfl
  ·unfold kH
   rw[z8 (xo _),z7]; rfl
 unfold cQ
 rw[z6 loop]
 cases x with | mk k n s kids =>
 show _=some (dH F' (.mk k n s kids))
 rw[show Expr.kids (.mk k n s kids)=kids from rfl,show Expr.kind (.mk k n s kids)=k from rfl]at *
 cases hl:rL F' kids with
 | false =>
  rw[if_neg (by simp)]
  show(T.ret false:T Bool).run=some (!Kv F' k kids&&rL F' kids)
  rw[hl,Bool.and_false]; rfl
 | true =>
  rw[if_pos rfl]
  have zcS:dH F' (.mk k n s kids) = !Kv F' k kids:=by
   show(!Kv F' k kids&&rL F' kids)=_
   rw[hl,Bool.and_true]
  rw[zcS,Sum.elim_inl]
  have other:(((kids.length:Int))==2)=false→Kv F' k kids=false:=fun h=>by
   unfold Kv
   split
   ·simp at h
   ·rfl
  cases h2:(((kids.length:Int))==2)with
  | false =>
   rw[other h2,Bool.and_false,Bool.and_false]; rfl
  | true =>
   match kids,h2,hk,hx with
   | [a,b],_,hk,hx =>
    have ha:bkE a≤1000000:=by simp only[bkE,bkEs]at hx; omega
    have ZI:bkE b≤1000000:=by simp only[bkE,bkEs]at hx; omega
    have ra:=XO a F' ha hF
    have rb:=XO b F' ZI hF
    show(.ite ((k==5)&&true) (.zd (zi 0 2)<|T.bind (bg a F') fun r1=>.ite (!r1) (.ret true) (.zd (zi 1 2)<|T.bind (bg b F') fun r2=>.ret (!r2)))
     (.ite ((k==6)&&true) (.zd (zi 1 2)<|T.bind (bg b F') fun r3=>.ret (!r3)) (.ret true)):T Bool).run=some (!((k==5&&(oa a F'&&oa b F'))||(k==6&&oa b F')))
    rw[Bool.and_true,Bool.and_true]
    by_cases h5:k=5
    ·subst h5
     rw[za (by rfl),zc ⟨by omega,by omega⟩,z6 ra]
     cases oa a F' with
     | false=>rfl
     | true =>
      rw[z8 (by rfl),zc ⟨by omega,by omega⟩,z6 rb,z7]
      cases oa b F'<;>rfl
    ·have k5:(k==5)=false:=by simpa using h5
     rw[k5,zr]
     by_cases h6:k=6
     ·subst h6
      rw[za (by rfl),zc ⟨by omega,by omega⟩,z6 rb,z7]
      cases oa b F'<;>rfl
     ·have k6:(k==6)=false:=by simpa using h6
      rw[k6]; rfl
theorem sQ(e:Expr)(hb:bkE e≤1000000000):(oD e).run=some ((xU e:Nat):Int):=by
 unfold oD
 refine jG (fun x:Expr=>bkE x≤1000000000) (fun x=>bkE x) (fun x=>((xU x:Nat):Int)) (fun x hx g hg => ?_) (x:=e) hb
 have hk:=gN x
 have FK:=iR x.kids
 have ndb:∀ (l:List Expr),um l≤bkEs l:=by
  have both:∀ n,(∀ e:Expr,bkE e≤n→xU e≤bkE e):=by
   intro n
   induction n using Nat.strongRecOn with
   | _ n ih =>
    intro e he
    cases e with | mk k m s l =>
    have hl:∀ l':List Expr,bkEs l'<n→um l'≤bkEs l':=by
     intro l'
     induction l' with
     | nil=>intro _; exact Nat.le_refl _
     | cons y r ihr =>
      intro h
      unfold bkEs at h ⊢
      unfold um
      have h1:=ih (bkE y) (by omega) y (Nat.le_refl _)
      have h2:=ihr (by omega)
      omega
    have h3:bkEs l<bkE (.mk k m s l):=gN (.mk k m s l)
    have:=hl l (by omega)
    unfold xU
    omega
  intro l
  induction l with
  | nil=>exact Nat.le_refl _
  | cons y r ihr =>
   unfold um bkEs
   have:=both (bkE y) y (Nat.le_refl _)
   omega
 have loop:(ZU (fun y0=>g y0) x (1,0)).run=some ((1+um x.kids:Nat):Int):=by
  have key:=ny (r:=ga (fun y0=>g y0) x) x.kids (zb .expr) (fun(b:Nat) i=>(((b:Nat):Int),i)) (fun b r=>b+um r≤1+um x.kids∧∀ y∈r,y∈x.kids) (fun r b=>((b+um r:Nat):Int)) ?_ ?_ (b:=1) ⟨Nat.le_refl _,fun y hy=>hy⟩
  ·exact key
  ·rintro b y ys i h0 hi hy ⟨h1,h2⟩
   have hm:=gV (h2 y List.mem_cons_self)
   have hr:=hg y (by omega) (by omega)
   have Nh:=ndb x.kids
   have e1:um (y::ys)=xU y+um ys:=rfl
   rw[e1]at h1
   refine .inl ⟨b+xU y,?_,⟨by omega,fun z hz=>h2 z (List.mem_cons_of_mem _ hz)⟩,by rw[e1,Nat.add_assoc]⟩
   unfold ga
   dsimp only
   rw[za (decide_eq_true hi),zc ⟨h0,hi⟩,hy,z6 hr,z7,zQ (x:=i+1) (by omega) (by omega),zQ (by omega) (by omega)]
   rfl
  ·rintro b _
   unfold ga
   dsimp only
   rw[z8 (xo _),z7]; rfl
 unfold ff
 rw[z6 loop,z7]
 cases x with | mk k n s kids=>rfl
theorem U2(e:Expr)(h:allOk e)(hb:bkE e≤1000000)(hn:xU e≤256):(ya e).run=some (vf 0 e):=by
 unfold ya
 have h1:(nu e 1).run=some (vf 0 e):=Mg e 0 h (by omega) (by omega)
 rw[z6 h1]
 cases vf 0 e with
 | false=>rfl
 | true=>rw[zD,z6 (sQ e (by omega)),z7,decide_eq_true (by omega)]
def qP(k:Int):Int:=if k=3∨k=4 then 1 else if k=5∨k=6 then 2 else if k=7 then 3 else 4
def CQ(k:Int):zf:=if k=3 then[32,43,32]else if k=4 then[32,45,32]else if k=5 then[32,42,32]else if k=6 then[32,47,32]else[]
def pz(b:Bool)(s:zf):zf:=if b=true then[40]++s++[41]else s
def We(k:Int):List (Int×zf)→zf
 | [a]=>[45]++pz (decide (a.1<3)) a.2
 | [a,b]=>pz (decide (a.1<qP k)) a.2++CQ k++pz (decide (b.1<qP k+1)) b.2
 | _=>[]
mutual
def prE:Expr→zf
 | .mk k n s l=>if k=1 then(xS (norm n).1 (nv (norm n).2.1) (nv (norm n).2.2.1) 0 61).1 else if k=2 then s else We k (prL l)
def prL:List Expr→List (Int×zf)
 | []=>[]
 | e::r=>(qP e.kind,prE e)::prL r
end
theorem hJ(b:Bool)(s:zf):(pz b s).length≤s.length+2:=by unfold pz; split<;>simp<;>omega
theorem Hb(k:Int):(CQ k).length≤3:=by unfold CQ; (repeat' split)<;>simp
theorem Ov(n:Rat)(h:Vl n):(xS (norm n).1 (nv (norm n).2.1) (nv (norm n).2.2.1) 0 61).1.length≤6000:=by
 have hn:=oZ (k:=100) (by omega) h
 have hd:=Y5 n.1 (nv n.2.1) (nv n.2.2.1)
 have hd:nv (norm n).2.2.1≠0:=hd
 rcases hx:xS (norm n).1 (nv (norm n).2.1) (nv (norm n).2.2.1) 0 61 with⟨s,b⟩
 cases b with
 | true =>
  obtain⟨j,h1,h2,h3,rfl⟩:=GW _ _ _ hd 61 0 s hx
  have l1:=zW hn.1
  have l2:=hn.2.2.1
  have l3:=Xq j
  have l4:=xl (nv (norm n).2.1) (10 ^ j)
  have l5:=cd (Nat.div_le_self (nv (norm n).2.1*10 ^ j) (nv (norm n).2.2.1))
  have l6:=iC (nv (norm n).2.1*10 ^ j / nv (norm n).2.2.1) 162 (by omega)
  have l7:(ME (norm n).1).length≤1:=by unfold ME; split<;>simp
  dsimp only
  rw[List.length_append]
  by_cases hj:j=0
  ·subst hj
   unfold P8
   rw[if_pos rfl]
   omega
  ·obtain⟨w,p,e,_,_,_,hp,_,hw⟩:=Nl (pr (nv (norm n).2.1*10 ^ j / nv (norm n).2.2.1)) j hj (z3w _).1
   rw[e,List.length_append,List.length_cons]
   omega
 | false =>
  have:∀ (f k:Nat) (s:zf),xS (norm n).1 (nv (norm n).2.1) (nv (norm n).2.2.1) k f=(s,false)→s=[]:=by
   intro f
   induction f with
   | zero=>intro k s h; unfold xS at h; cases h; rfl
   | succ f ih =>
    intro k s h
    unfold xS at h
    split at h
    ·cases h
    ·exact ih _ _ h
  rw[this 61 0 s hx]; simp
theorem Xa{d:Nat}{k:Int}{n:Rat}{s:zf}{l:List Expr}(h:vf d (.mk k n s l)=true):((l.length:Int)=VP k)∧yd (d+1) l=true:=by
 have h:(decide (d<32)&&(dW (.mk k n s l)&&yd (d+1) l))=true:=h
 simp only[Bool.and_eq_true]at h
 obtain⟨_,h1,h2⟩:=h
 unfold dW at h1
 simp only[Bool.and_eq_true]at h1
 exact⟨eq_of_beq h1.1,h2⟩
theorem ml:∀ (m:Nat) (e:Expr) (d:Nat),xU e≤m→vf d e=true→allOk e→(prE e).length≤2000*szE e:=by
 intro m
 induction m with
 | zero=>intro e d hm; cases e; unfold xU at hm; omega
 | succ m ih =>
  intro e d hm ho ha
  cases e with | mk k n s l =>
  obtain⟨hk,hl⟩:=Xa ho
  obtain⟨hn,rv⟩:=ha
  have Nh:xU (.mk k n s l)=1+um l:=rfl
  have jm:szE (.mk k n s l)=3+s.length+8*n.2.1.length+8*n.2.2.1.length+szEs l:=rfl
  rw[Nh]at hm
  rw[jm]
  show(if k=1 then(xS (norm n).1 (nv (norm n).2.1) (nv (norm n).2.2.1) 0 61).1 else if k=2 then s else We k (prL l)).length≤_
  by_cases h1:k=1
  ·rw[if_pos h1]; have:=Ov n hn; omega
  ·rw[if_neg h1]
   by_cases h2:k=2
   ·rw[if_pos h2]; omega
   ·rw[if_neg h2]
    match l,hl,rv,hm with
    | [],_,_,_=>show(We k []).length≤_; unfold We; simp
    | [a],hl,rv,hm =>
     have DU:vf (d+1) a=true:=by
      have:(vf (d+1) a&&yd (d+1) [])=true:=hl
      simp only[Bool.and_eq_true]at this; exact this.1
     have:=ih a (d+1) (by have:um [a]=xU a+0:=rfl; omega) DU rv.1
     have e1:szEs [a]=szE a+0:=rfl
     have hp:=hJ (decide (qP a.kind<3)) (prE a)
     show([45]++pz (decide (qP a.kind<3)) (prE a)).length≤_
     rw[List.length_append,List.length_singleton,e1]; omega
    | [a,b],hl,rv,hm =>
     have Gk:vf (d+1) a=true∧vf (d+1) b=true:=by
      have:(vf (d+1) a&&(vf (d+1) b&&yd (d+1) []))=true:=hl
      simp only[Bool.and_eq_true]at this; exact⟨this.1,this.2.1⟩
     have e0:um [a,b]=xU a+(xU b+0):=rfl
     have h3:=ih a (d+1) (by omega) Gk.1 rv.1
     have h4:=ih b (d+1) (by omega) Gk.2 rv.2.1
     have e1:szEs [a,b]=szE a+(szE b+0):=rfl
     have hp:=hJ (decide (qP a.kind<qP k)) (prE a)
     have hq:=hJ (decide (qP b.kind<qP k+1)) (prE b)
     have hm':=Hb k
     show(pz (decide (qP a.kind<qP k)) (prE a)++CQ k++pz (decide (qP b.kind<qP k+1)) (prE b)).length≤_
     rw[List.length_append,List.length_append,e1]; omega
    | a::b::c::r,_,_,_=>show(We k _).length≤_; unfold prL prL prL We; simp
theorem H5(e:Expr):(cG e).run=some (qP e.kind):=by
 unfold cG qP
 generalize e.kind=k
 by_cases h3:k=3
 ·subst h3; rfl
 by_cases h4:k=4
 ·subst h4; rfl
 by_cases h5:k=5
 ·subst h5; rfl
 by_cases h6:k=6
 ·subst h6; rfl
 by_cases h7:k=7
 ·subst h7; rfl
 ·simp[h3,h4,h5,h6,h7]
theorem z1y(k:Int):(rI k).run=some (qP k):=by
 unfold rI qP
 by_cases h3:k=3
 ·subst h3; rfl
 by_cases h4:k=4
 ·subst h4; rfl
 by_cases h5:k=5
 ·subst h5; rfl
 by_cases h6:k=6
 ·subst h6; rfl
 by_cases h7:k=7
 ·subst h7; rfl
 ·simp[h3,h4,h5,h6,h7]
theorem Qk(g:Expr→T zf)(e:Expr)(least:Int)(t:zf)(hg:(g e).run=some t)(hl:t.length≤1000000000000):(gO (fun y0=>g y0) e least).run=some (pz (decide (qP e.kind<least)) t):=by
 unfold gO pz
 rw[z6 (H5 e)]
 cases decide (qP e.kind<least)with
 | true=>rw[zD,z6 hg,zG _ (by simp; omega),zG _ (by simp[cA]; omega),z7,if_pos rfl]; rfl
 | false=>rw[zr,z6 hg,z7,if_neg (by simp)]
theorem Ht{k:Int}{l:List Expr}(hk:(l.length:Int)=VP k)(h1:k≠1)(h2:k≠2):(k=7∧∃ a,l=[a])∨((k=3∨k=4∨k=5∨k=6)∧∃ a b,l=[a,b]):=by
 unfold VP at hk
 rw[if_neg (by rintro(h | h); exact h1 h; exact h2 h)]at hk
 by_cases h7:k=7
 ·rw[if_pos h7]at hk
  match l,hk with
  | [a],_=>exact .inl ⟨h7,a,rfl⟩
  | [],hk=>simp at hk
  | _::_::_,hk=>simp at hk; omega
 ·rw[if_neg h7]at hk
  by_cases h:k=3∨k=4∨k=5∨k=6
  ·rw[if_pos h]at hk
   match l,hk with
   | [a,b],_=>exact .inr ⟨h,a,b,rfl⟩
   | [],hk=>simp at hk
   | [_],hk=>simp at hk
   | _::_::_::_,hk=>simp at hk; omega
  ·rw[if_neg h]at hk; omega
theorem Ni(e:Expr)(d:Nat)(ho:vf d e=true)(ha:allOk e)(hs:szE e≤1000000):(oK e).run=some (prE e):=by
 unfold oK
 refine jG (fun x:Expr=>(∃ d,vf d x=true)∧allOk x∧szE x≤1000000) (fun x=>xU x) (fun x=>prE x) (fun x hx g hg => ?_) (x:=e) ⟨⟨d,ho⟩,ha,hs⟩
 obtain⟨⟨d,ho⟩,ha,hs⟩:=hx
 cases x with | mk k n s l =>
 obtain⟨hk,hl⟩:=Xa ho
 obtain⟨hn,rv⟩:=ha
 have Nh:xU (.mk k n s l)=1+um l:=rfl
 have jm:szE (.mk k n s l)=3+s.length+8*n.2.1.length+8*n.2.2.1.length+szEs l:=rfl
 have hE:=ZN n (xM hn (by omega))
 have z7K:prE (.mk k n s l)=if k=1 then(xS (norm n).1 (nv (norm n).2.1) (nv (norm n).2.2.1) 0 61).1 else if k=2 then s else We k (prL l):=rfl
 rw[z7K]
 unfold fg
 rw[show Expr.kind (.mk k n s l)=k from rfl,show Expr.kids (.mk k n s l)=l from rfl,show Expr.num (.mk k n s l)=n from rfl,show Expr.name (.mk k n s l)=s from rfl]
 have z0f:=H5 (.mk k n s l)
 rw[show Expr.kind (.mk k n s l)=k from rfl]at z0f
 by_cases h1:k=1
 ·rw[if_pos h1]
  refine(z6 (a:=.inr (xS (norm n).1 (nv (norm n).2.1) (nv (norm n).2.2.1) 0 61).1) ?_ _).trans rfl
  rw[za (by simpa using h1),z6 hE,z7]
 have k1:(k==1)=false:=by simpa using h1
 by_cases h2:k=2
 ·rw[if_neg h1,if_pos h2]
  refine(z6 (a:=.inr s) ?_ _).trans rfl
  rw[z8 k1,za (by simpa using h2),z7]
 have k2:(k==2)=false:=by simpa using h2
 rw[if_neg h1,if_neg h2]
 rcases Ht hk h1 h2 with⟨h7,a,rfl⟩ | ⟨h36,a,b,rfl⟩
 ·have DU:vf (d+1) a=true:=by
   have:(vf (d+1) a&&yd (d+1) [])=true:=hl
   simp only[Bool.and_eq_true]at this; exact this.1
  have e0:um [a]=xU a+0:=rfl
  have e1:szEs [a]=szE a+0:=rfl
  have hr:=hg a ⟨⟨_,DU⟩,rv.1,by omega⟩ (by omega)
  have hlen:=ml (xU a) a (d+1) (Nat.le_refl _) DU rv.1
  have hp:=Qk g a 3 (prE a) hr (by omega)
  have XA:=hJ (decide (qP a.kind<3)) (prE a)
  refine(z6 (a:=.inr (We k (prL [a]))) ?_ _).trans rfl
  rw[z8 k1,z8 k2,za (by simpa using h7),zc ⟨by omega,by simp⟩,show nth [a] (0:Int) (zb .expr)=a from rfl,z6 hp,zG _ (by simp; omega),z7]
  rfl
 ·have Gk:vf (d+1) a=true∧vf (d+1) b=true:=by
   have:(vf (d+1) a&&(vf (d+1) b&&yd (d+1) []))=true:=hl
   simp only[Bool.and_eq_true]at this; exact⟨this.1,this.2.1⟩
  have e0:um [a,b]=xU a+(xU b+0):=rfl
  have e1:szEs [a,b]=szE a+(szE b+0):=rfl
  have ra:=hg a ⟨⟨_,Gk.1⟩,rv.1,by omega⟩ (by omega)
  have rb:=hg b ⟨⟨_,Gk.2⟩,rv.2.1,by omega⟩ (by omega)
  have la:=ml (xU a) a (d+1) (Nat.le_refl _) Gk.1 rv.1
  have lb:=ml (xU b) b (d+1) (Nat.le_refl _) Gk.2 rv.2.1
  have Ei:zu (qP k+1)=qP k+1:=by
   have:qP k=1∨qP k=2∨qP k=3∨qP k=4:=by unfold qP; (repeat' split)<;>simp
   rw[zQ (by omega) (by omega)]
  have pa:=Qk g a (qP k) (prE a) ra (by omega)
  have pb:=Qk g b (qP k+1) (prE b) rb (by omega)
  have qa:=hJ (decide (qP a.kind<qP k)) (prE a)
  have qb:=hJ (decide (qP b.kind<qP k+1)) (prE b)
  have hm:=Hb k
  have k7:(k==7)=false:=by rw[beq_eq_false_iff_ne]; omega
  refine(z6 (a:=.inl (CQ k)) ?_ _).trans ?_
  ·rw[z8 k1,z8 k2,z8 k7]
   rcases h36 with rfl | rfl | rfl | rfl<;>rfl
  ·rw[Sum.elim_inl,zc ⟨by omega,by simp⟩,z6 z0f,show nth [a,b] (0:Int) (zb .expr)=a from rfl,z6 pa,zG _ (by omega),zc ⟨by omega,by simp⟩,z6 z0f,Ei,show nth [a,b] (1:Int) (zb .expr)=b from rfl,z6 pb,zG _ (by simp[cA]; omega),z7]
   rfl
theorem PN(e:Expr)(asks:Int)(d:Nat)(ho:vf d e=true)(ha:allOk e)(hs:szE e≤100000):(tz e asks).run=some (pz (decide (qP e.kind<asks)) (prE e)):=by
 unfold tz
 refine jG (fun x:Expr×Int=>(∃ d,vf d x.1=true)∧allOk x.1∧szE x.1≤100000) (fun x=>xU x.1) (fun x=>pz (decide (qP x.1.kind<x.2)) (prE x.1)) (fun x hx g hg => ?_) (x:=(e,asks)) ⟨⟨d,ho⟩,ha,hs⟩
 obtain⟨x,q⟩:=x
 obtain⟨⟨d,ho⟩,ha,hs⟩:=hx
 dsimp only at ho ha hs
 have zhR:=ml (xU x) x d (Nat.le_refl _) ho ha
 cases x with | mk k n s l =>
 obtain⟨hk,hl⟩:=Xa ho
 obtain⟨hn,rv⟩:=ha
 have Nh:xU (.mk k n s l)=1+um l:=rfl
 have jm:szE (.mk k n s l)=3+s.length+8*n.2.1.length+8*n.2.2.1.length+szEs l:=rfl
 have hE:=sZ n (xM hn (by omega))
 have z7K:prE (.mk k n s l)=if k=1 then(xS (norm n).1 (nv (norm n).2.1) (nv (norm n).2.2.1) 0 61).1 else if k=2 then s else We k (prL l):=rfl
 unfold lI
 rw[show Expr.kind (.mk k n s l)=k from rfl,show Expr.kids (.mk k n s l)=l from rfl,show Expr.num (.mk k n s l)=n from rfl,show Expr.name (.mk k n s l)=s from rfl]
 have fin:∀ t:T zf,t.run=some (prE (.mk k n s l))→(T.bind t fun s1=>T.bind (rI k) fun Ek=>.ite (decide (Ek<q))
   (.zd (((List.length ([40]:zf))+(List.length s1))≤(4611686018427387904:Nat))<|.zd (((List.length (cat ([40]:zf) s1))+(List.length ([41]:zf)))≤(4611686018427387904:Nat))<|.ret (cat (cat ([40]:zf) s1) ([41]:zf))) (.ret s1):T zf).run=some (pz (decide (qP k<q)) (prE (.mk k n s l))):=by
  intro t ht
  rw[z6 ht,z6 (z1y k)]
  cases decide (qP k<q)with
  | true=>rw[zD,zG _ (by simp; omega),zG _ (by simp[cA]; omega),z7]; rfl
  | false=>rw[zr,z7]; rfl
 refine fin _ ?_
 rw[z7K]
 by_cases h1:k=1
 ·rw[if_pos h1,za (by simpa using h1),z6 hE,z7]
 have k1:(k==1)=false:=by simpa using h1
 by_cases h2:k=2
 ·rw[if_neg h1,if_pos h2,z8 k1,za (by simpa using h2),z7]
 have k2:(k==2)=false:=by simpa using h2
 rw[if_neg h1,if_neg h2]
 rcases Ht hk h1 h2 with⟨h7,a,rfl⟩ | ⟨h36,a,b,rfl⟩
 ·have DU:vf (d+1) a=true:=by
   have:(vf (d+1) a&&yd (d+1) [])=true:=hl
   simp only[Bool.and_eq_true]at this; exact this.1
  have e0:um [a]=xU a+0:=rfl
  have e1:szEs [a]=szE a+0:=rfl
  have hr:=hg (a,3) ⟨⟨_,DU⟩,rv.1,by dsimp only; omega⟩ (by dsimp only; omega)
  have hlen:=ml (xU a) a (d+1) (Nat.le_refl _) DU rv.1
  have XA:=hJ (decide (qP a.kind<3)) (prE a)
  dsimp only at hr
  rw[z8 k1,z8 k2,za (by simpa using h7),zc ⟨by omega,by simp⟩,show nth [a] (0:Int) (zb .expr)=a from rfl,z6 hr,zG _ (by simp; omega),z7]
  rfl
 ·have Gk:vf (d+1) a=true∧vf (d+1) b=true:=by
   have:(vf (d+1) a&&(vf (d+1) b&&yd (d+1) []))=true:=hl
   simp only[Bool.and_eq_true]at this; exact⟨this.1,this.2.1⟩
  have e0:um [a,b]=xU a+(xU b+0):=rfl
  have e1:szEs [a,b]=szE a+(szE b+0):=rfl
  have ra:∀ q:Int,(g (a,q)).run=some (pz (decide (qP a.kind<q)) (prE a)):=fun q=>hg (a,q) ⟨⟨_,Gk.1⟩,rv.1,by dsimp only; omega⟩ (by dsimp only; omega)
  have rb:∀ q:Int,(g (b,q)).run=some (pz (decide (qP b.kind<q)) (prE b)):=fun q=>hg (b,q) ⟨⟨_,Gk.2⟩,rv.2.1,by dsimp only; omega⟩ (by dsimp only; omega)
  have la:=ml (xU a) a (d+1) (Nat.le_refl _) Gk.1 rv.1
  have lb:=ml (xU b) b (d+1) (Nat.le_refl _) Gk.2 rv.2.1
  have qa:∀ q:Int,(pz (decide (qP a.kind<q)) (prE a)).length≤1000000000:=fun q=>by have:=hJ (decide (qP a.kind<q)) (prE a); omega
  have qb:∀ q:Int,(pz (decide (qP b.kind<q)) (prE b)).length≤1000000000:=fun q=>by have:=hJ (decide (qP b.kind<q)) (prE b); omega
  have k7:(k==7)=false:=by rw[beq_eq_false_iff_ne]; omega
  have two:∀ (m:zf) (p q:Int),m.length≤3→(.zd (zi (0:Int) (List.length [a,b]))<|T.bind (g (nth [a,b] (0:Int) (zb .expr),p)) fun r2=>.zd (((List.length r2)+(List.length m))≤(4611686018427387904:Nat))<|.zd (zi (1:Int) (List.length [a,b])) <|
    T.bind (g (nth [a,b] (1:Int) (zb .expr),q)) fun r3=>.zd (((List.length (cat r2 m))+(List.length r3))≤(4611686018427387904:Nat))<|.ret (cat (cat r2 m) r3):T zf).run=some (pz (decide (qP a.kind<p)) (prE a)++m++pz (decide (qP b.kind<q)) (prE b)):=by
   intro m p q hm
   have h3:=qa p
   have h4:=qb q
   rw[zc ⟨by omega,by simp⟩,show nth [a,b] (0:Int) (zb .expr)=a from rfl,z6 (ra p),zG _ (by omega),zc ⟨by omega,by simp⟩,show nth [a,b] (1:Int) (zb .expr)=b from rfl,z6 (rb q),zG _ (by simp[cA]; omega),z7]
   rfl
  rw[z8 k1,z8 k2,z8 k7]
  rcases h36 with rfl | rfl | rfl | rfl
  ·rw[za (by rfl)]; exact two [32,43,32] 1 2 (by simp)
  ·rw[z8 (by rfl),za (by rfl)]; exact two [32,45,32] 1 2 (by simp)
  ·rw[z8 (by rfl),z8 (by rfl),za (by rfl)]; exact two [32,42,32] 2 3 (by simp)
  ·rw[z8 (by rfl),z8 (by rfl),z8 (by rfl),za (by rfl)]; exact two [32,47,32] 2 3 (by simp)
theorem Nj(e:Expr)(ho:vf 0 e=true)(ha:allOk e)(hs:szE e≤700):(cI e).run=some (prE e):=by
 have hn:=Bx e
 unfold cI
 rw[z6 (TR e ha (by omega)),ho,z8 (by rfl),z6 (Ni e 0 ho ha (by omega)),z7]
theorem Yg(e:Expr)(ho:vf 0 e=true)(ha:allOk e)(hs:szE e≤700)(hb:bkE e≤1000000):(kP e).run=some (prE e):=by
 have hn:=Bx e
 unfold kP
 rw[z6 (U2 e ha hb (by omega)),ho,z8 (by rfl),z6 (PN e 1 0 ho ha (by omega)),z7]
 have:decide (qP e.kind<1)=false:=by
  refine decide_eq_false ?_
  unfold qP
  (repeat' split)<;>omega
 rw[this]; rfl
inductive PR where
 | no
 | er (k:Int) (bad r:zf) (d:Nat) (l:Bool)
 | ok (e:Expr) (r:zf) (l:Bool)
def PR.bind:PR→(Expr→zf→Bool→PR)→PR
 | .no,_=>.no
 | .er k b r d l,_=>.er k b r d l
 | .ok e r l,f=>f e r l
def z4p(k:Int)(l:List Expr):Expr:=.mk k eT [] l
def To(t:zf):Rat:=match z35 t with | some (n,d)=>kZ (List.isPrefixOf [45] t) n d | none=>eT
mutual
def lv(deep:Nat)(left:Int):Expr→Bool×Int
 | .mk k n s l=>if left-1<0∨(decide (deep<32)&&dW (.mk k n s l))=false then(false,left-1)else gB (deep+1) (left-1) l
def gB(deep:Nat)(left:Int):List Expr→Bool×Int
 | []=>(true,left)
 | e::r=>if(lv deep left e).1=true then gB deep (lv deep left e).2 r else(false,(lv deep left e).2)
end
mutual
theorem Hf:∀ (e:Expr) (d:Nat) (left:Int),0≤left→(lv d left e).1=(vf d e&&decide ((xU e:Int)≤left))∧((lv d left e).1=true→(lv d left e).2=left-xU e)∧(lv d left e).2≤left ∧ -1≤(lv d left e).2
 | .mk k n s l,d,left,h=>by
  have e1:vf d (.mk k n s l)=((decide (d<32)&&dW (.mk k n s l))&&yd (d+1) l):=by unfold vf; rw[Bool.and_assoc]
  have e2:xU (.mk k n s l)=1+um l:=rfl
  unfold lv
  rw[e1,e2]
  by_cases c:left-1<0
  ·rw[if_pos (.inl c)]
   refine⟨?_,fun h=>by simp at h,by omega,by dsimp only; omega⟩
   dsimp only
   rw[show decide (((1+um l:Nat):Int)≤left)=false from decide_eq_false (by omega),Bool.and_false]
  ·cases q:(decide (d<32)&&dW (.mk k n s l))with
   | false=>rw[if_pos (.inr rfl)]; exact⟨rfl,fun h=>by simp at h,by dsimp only; omega,by dsimp only; omega⟩
   | true =>
    rw[if_neg (by rintro(h | h); exact c h; simp at h),Bool.true_and]
    obtain⟨h1,h2,h3,h4⟩:=C2 l (d+1) (left-1) (by omega)
    refine⟨?_,fun h=>by rw[h2 h]; omega,by omega,by omega⟩
    rw[h1]
    congr 1
    exact decide_eq_decide.2 (by omega)
theorem C2:∀ (l:List Expr) (d:Nat) (left:Int),0≤left→(gB d left l).1=(yd d l&&decide ((um l:Int)≤left))∧((gB d left l).1=true→(gB d left l).2=left-um l)∧(gB d left l).2≤left ∧ -1≤(gB d left l).2
 | [],d,left,h=>by
  refine⟨?_,fun _ => ?_,Int.le_refl _,?_⟩
  ·show true=(true&&decide (((0:Nat):Int)≤left)); simp; omega
  ·show left=left-((0:Nat):Int); omega
  ·show -1≤left; omega
 | e::r,d,left,h=>by
  have e1:yd d (e::r)=(vf d e&&yd d r):=rfl
  have e2:um (e::r)=xU e+um r:=rfl
  obtain⟨h1,h2,h3,h4⟩:=Hf e d left h
  unfold gB
  rw[e1,e2]
  cases q:(lv d left e).1 with
  | false =>
   rw[if_neg (by simp)]
   refine⟨?_,fun h=>by simp at h,h3,h4⟩
   dsimp only
   rw[q]at h1
   cases ho:vf d e with
   | false=>rfl
   | true =>
    rw[ho,Bool.true_and]at h1
    have:=of_decide_eq_false h1.symm
    rw[show decide (((xU e+um r:Nat):Int)≤left)=false from decide_eq_false (by omega),Bool.and_false]
  | true =>
   rw[if_pos rfl]
   have hq:=h2 q
   rw[q]at h1
   have h1:=h1.symm
   rw[Bool.and_eq_true,decide_eq_true_eq]at h1
   obtain⟨g1,g2,g3,g4⟩:=C2 r d (lv d left e).2 (by omega)
   refine⟨?_,fun h=>by rw[g2 h]; omega,by omega,by omega⟩
   rw[g1,h1.1,Bool.true_and]
   congr 1
   exact decide_eq_decide.2 (by omega)
end
theorem EV(e:Expr)(deep:Nat)(left:Int)(h:allOk e)(hl:xU e≤1000000)(hl0:0≤left)(iI:left≤100000)(hd:deep≤32):(jY e (deep:Int) left).run=some (lv deep left e):=by
 unfold jY
 refine jG (fun x:Expr×Int×Int=>allOk x.1∧0≤x.2.1∧x.2.1≤32∧xU x.1≤1000000∧0≤x.2.2∧x.2.2≤100000) (fun x=>xU x.1) (fun x=>lv x.2.1.toNat x.2.2 x.1) (fun x hx g hg => ?_) (x:=(e,(deep:Int),left)) ⟨h,by dsimp only; omega,by dsimp only; omega,by dsimp only; omega,by dsimp only; omega,by dsimp only; omega⟩
 obtain⟨e,d,L⟩:=x
 obtain⟨ha,F5,O3,hn,zhx,hlf⟩:=hx
 dsimp only at ha F5 O3 hn zhx hlf
 obtain⟨D,rfl⟩:∃ D:Nat,d=(D:Int):=⟨d.toNat,by omega⟩
 cases e with | mk k n s kids =>
 obtain⟨Il,Dd⟩:=ha
 have Nh:xU (.mk k n s kids)=1+um kids:=by unfold xU; rfl
 rw[Nh]at hn
 have ew:zu (L-1)=L-1:=zQ (by omega) (by omega)
 have Rv:=Kq (.mk k n s kids) Il
 simp only[Int.toNat_natCast]
 unfold bC
 rw[ew]
 have head:((.ite (decide ((L-1)<(0:Int))) (.ret (true,L-1)) (.ite (decide ((32:Int)≤(D:Int))) (.ret (true,L-1)) (T.bind (gH (.mk k n s kids)) fun r=>.ret ((!r),L-1)))):T (Bool×Int)).run =
   some (decide (L-1<0∨(decide (D<32)&&dW (.mk k n s kids))=false),L-1):=by
  by_cases c0:L-1<0
  ·rw[za (decide_eq_true c0),z7,decide_eq_true (.inl c0)]
  ·rw[z8 (decide_eq_false c0)]
   by_cases c:D<32
   ·rw[z8 (decide_eq_false (by omega)),z6 Rv,z7,decide_eq_true c,Bool.true_and]
    cases dW (.mk k n s kids)<;>simp[c0]
   ·rw[za (decide_eq_true (by omega)),z7,decide_eq_false c,Bool.false_and]
    simp
 rw[z6 head]
 dsimp only
 unfold lv
 by_cases q:L-1<0∨(decide (D<32)&&dW (.mk k n s kids))=false
 ·rw[za (decide_eq_true q),z7,if_pos q]
 ·rw[z8 (decide_eq_false q),if_neg q]
  have q1:¬ L-1<0:=fun h=>q (.inl h)
  have hD:D<32:=by
   by_cases c:D<32
   ·exact c
   ·exact absurd (.inr (by rw[decide_eq_false c]; rfl)) q
  have ed:zu ((D:Int)+1)=((D+1:Nat):Int):=by rw[zQ (by omega) (by omega)]; omega
  have loop:∃ z,(q9 (fun y0 y1 y2=>g (y0,y1,y2)) kids (kids.length:Int) (((D:Int),()),((0:Int),L-1))).run=some z ∧
    (((gB (D+1) (L-1) kids).1=true∧z=.inl (gB (D+1) (L-1) kids).2)∨((gB (D+1) (L-1) kids).1=false∧∃ i:Int,0≤i∧z=.inr (i,(gB (D+1) (L-1) kids).2))):=by
   refine T.xm (r:=zT (fun y0 y1 y2=>g (y0,y1,y2)) kids (kids.length:Int)) (fun st:(Int×Unit)×Int×Int=>∃ (j:Nat) (B:Int),st=(((D:Int),()),(j:Int),B)∧j≤kids.length∧0≤B∧B≤100000 ∧
    gB (D+1) B (kids.drop j)=gB (D+1) (L-1) kids) (fun st=>kids.length-st.2.1.toNat) _ (fun st xR => ?_) ⟨0,L-1,rfl,by omega,by omega,by omega,by rw[List.drop_zero]⟩
   obtain⟨j,B,rfl,hj,hB0,hB,B7⟩:=xR
   by_cases c:j<kids.length
   ·have hdr:kids.drop j=kids[j]::kids.drop (j+1):=List.drop_eq_getElem_cons c
    rw[hdr]at B7
    rw[show gB (D+1) B (kids[j]::kids.drop (j+1))=if(lv (D+1) B kids[j]).1=true then gB (D+1) (lv (D+1) B kids[j]).2 (kids.drop (j+1))else(false,(lv (D+1) B kids[j]).2)from rfl]at B7
    have Ul:=QD Dd _ (List.getElem_mem c)
    have R0:=Hf kids[j] (D+1) B hB0
    have Ir:xU kids[j]<1+um kids:=by have:=Xl (List.getElem_mem c); omega
    have B5:=hg (kids[j],((D+1:Nat):Int),B) ⟨Ul,by dsimp only; omega,by dsimp only; omega,by dsimp only; omega,by dsimp only; omega,by dsimp only; omega⟩ (by dsimp only; rw[Nh]; exact Ir)
    dsimp only at B5
    simp only[Int.toNat_natCast]at B5
    have hf:(jB (fun y0 y1 y2=>g (y0,y1,y2)) kids[j] (D:Int) B).run=some (!(lv (D+1) B kids[j]).1,(lv (D+1) B kids[j]).2):=by
     unfold jB
     rw[ed,z6 B5]; rfl
    unfold zT
    dsimp only
    rw[za (qQ c),zc (zo c),xh c,z6 hf]
    dsimp only
    cases hk:(lv (D+1) B kids[j]).1 with
    | true =>
     left
     rw[hk,if_pos rfl]at B7
     rw[z8 (by rfl),z7]
     have hlen:=W0 kids
     rw[vA j _ c (by omega)]
     have hb:=R0.1
     rw[hk]at hb
     have hb:=hb.symm
     rw[Bool.and_eq_true,decide_eq_true_eq]at hb
     have h2:=R0.2.1 hk
     refine⟨_,rfl,⟨j+1,(lv (D+1) B kids[j]).2,rfl,c,by omega,by omega,B7⟩,?_⟩
     simp only[Int.toNat_natCast]
     omega
    | false =>
     right
     rw[hk,if_neg (by simp)]at B7
     rw[za (by rfl),z7]
     exact⟨_,rfl,.inr ⟨by rw[← B7],(j:Int),by omega,by rw[← B7]⟩⟩
   ·right
    have hj2:j=kids.length:=by omega
    subst hj2
    rw[List.drop_length]at B7
    unfold zT
    dsimp only
    rw[z8 (xo _),z7]
    exact⟨_,rfl,.inl ⟨by rw[← B7]; rfl,by rw[← B7]; rfl⟩⟩
  obtain⟨z,hz,hc⟩:=loop
  have hcf:(qm (fun y0 y1 y2=>g (y0,y1,y2)) kids ((D:Int),()) (L-1)).run=some (!(gB (D+1) (L-1) kids).1,(gB (D+1) (L-1) kids).2):=by
   unfold qm xb
   rcases hc with⟨ho,rfl⟩ | ⟨ho,i,hi,rfl⟩
   ·have:((T.bind (q9 (fun y0 y1 y2=>g (y0,y1,y2)) kids (kids.length:Int) (((D:Int),()),((0:Int),L-1)))<|Sum.elim (fun v2=>.ret ((-1:Int),v2)) (fun(x2,v3)=>.ret (x2,v3))):T (Int×Int)).run=some (-1,(gB (D+1) (L-1) kids).2):=by
     rw[z6 hz]; rfl
    rw[z6 this,ho]; rfl
   ·have:((T.bind (q9 (fun y0 y1 y2=>g (y0,y1,y2)) kids (kids.length:Int) (((D:Int),()),((0:Int),L-1)))<|Sum.elim (fun v2=>.ret ((-1:Int),v2)) (fun(x2,v3)=>.ret (x2,v3))):T (Int×Int)).run=some (i,(gB (D+1) (L-1) kids).2):=by
     rw[z6 hz]; rfl
    rw[z6 this,ho,z7,decide_eq_true hi]; rfl
  rw[show Expr.kids (.mk k n s kids)=kids from rfl,z6 hcf]
  dsimp only
  rw[z7,Bool.not_not]
def Pf(e:Expr):Bool:=vf 0 e&&decide (xU e≤256)
theorem OU(e:Expr)(h:allOk e)(hn:xU e≤1000000):(uJ e).run=some (Pf e):=by
 unfold uJ Pf
 have:=EV e 0 256 h hn (by omega) (by omega) (by omega)
 have this:(jY e 0 256).run=some (lv 0 256 e):=this
 rw[z6 this,z7,(Hf e 0 256 (by omega)).1]
 congr 2
 exact decide_eq_decide.2 (by omega)
theorem sU(e:Expr)(h:allOk e)(hb:bkE e≤1000000000)(hn:xU e≤100000):(ya e).run=some (Pf e):=by
 unfold ya Pf
 have h1:(nu e 1).run=some (vf 0 e):=Mg e 0 h (by omega) (by omega)
 rw[z6 h1]
 cases vf 0 e with
 | false=>rfl
 | true =>
  rw[zD,z6 (sQ e hb),z7]
  congr 1
  rw[Bool.true_and]
  exact decide_eq_decide.2 (by omega)
theorem Vo(a b:Rat)(ha:qS 10000000 a)(hb:qS 10000000 b):(fh a b).run=some (qR (val a*val b)):=by
 unfold fh
 rw[z6 (ji a (xM ha (by omega))),z6 (ji b (xM hb (by omega))),xk,xk]
 have la:=vn (by omega) ha
 have lb:=vn (by omega) hb
 rw[LC]
 generalize val a=p at *
 generalize val b=q at *
 simp only[lY,vO,ye]
 have l1:=wI p; have l2:=wi p; have l3:=wI q; have l4:=wi q
 have m1:=xl p.num.natAbs q.num.natAbs
 have m2:=xl p.den q.den
 rw[z6 (dR _ _ (by omega) (by omega)),z6 (dR _ _ (by omega) (by omega)),z6 (oW _ _ _ (by omega) (by omega)),z7,eI]
 rfl
theorem XJ(a b:Rat)(ha:qS 10000000 a)(hb:qS 10000000 b):(kf a b).run=some (qR (val a*val b)):=by
 unfold kf
 rw[z6 (xA a (xM ha (by omega))),z6 (xA b (xM hb (by omega))),xk,xk]
 have la:=vn (by omega) ha
 have lb:=vn (by omega) hb
 rw[LC]
 generalize val a=p at *
 generalize val b=q at *
 simp only[lY,vO,ye]
 have l1:=wI p; have l2:=wi p; have l3:=wI q; have l4:=wi q
 have m1:=xl p.num.natAbs q.num.natAbs
 have m2:=xl p.den q.den
 rw[z6 (j8 _ _ (by omega) (by omega)),z6 (j8 _ _ (by omega) (by omega)),z6 (db _ _ _ (by omega) (by omega)),z7,eI]
 rfl
theorem Xu(q:Q):(((zJ q.num.natAbs).length:Int)==0)=decide (q=0):=by
 rw[de]
 refine decide_eq_decide.2 ⟨fun h=>Rat.num_eq_zero.1 (Int.natAbs_eq_zero.1 h),fun h=>by rw[h]; rfl⟩
theorem Hs(a:Rat)(ha:qS 10000000 a):(dm a).run=some (decide (val a=0)):=by
 unfold dm
 rw[z6 (ji a (xM ha (by omega))),xk,z7,vO,Xu]
theorem Yw(a:Rat)(ha:qS 10000000 a):(fA a).run=some (decide (val a=0)):=by
 unfold fA
 rw[z6 (xA a (xM ha (by omega))),xk,z7,vO,Xu]
theorem z1r(q:Q)(h:q≠0):val ((qR q).1,((qR q).2.2.1,((qR q).2.1,())))=1 / q:=by
 rw[z4m 1 q h]
 unfold val
 rw[lY,vO,ye]
 simp
theorem DI(a b:Rat)(ha:qS 10000000 a)(hb:qS 10000000 b):(X2 a b).run=some (if val b=0 then(qR 0,false)else(qR (val a / val b),true)):=by
 have nb:=oZ (k:=10000000) (by omega) hb
 rw[xk]at nb
 unfold X2
 rw[z6 (ji b (xM hb (by omega))),xk,vO,Xu]
 by_cases h:val b=0
 ·rw[if_pos h,za (decide_eq_true h),z6 (dQ 0 ⟨by omega,by omega⟩),z7]
  rfl
 ·have hm:=Vo a ((qR (val b)).1,((qR (val b)).2.2.1,((qR (val b)).2.1,()))) ha ⟨nb.2.1,nb.1,nb.2.2.2,nb.2.2.1⟩
  rw[z1r _ h]at hm
  rw[vO]at hm
  rw[if_neg h,z8 (decide_eq_false h),z6 hm,z7]
  congr 3
  rw[Rat.div_def,Rat.div_def]
  grind
theorem Xv(a b:Rat)(ha:qS 10000000 a)(hb:qS 10000000 b):∃ z,(dS a b).run=some (if val b=0 then z else qR (val a / val b),decide (val b≠0)):=by
 by_cases h:val b=0
 ·unfold dS
  rw[z6 (xA a (xM ha (by omega))),z6 (xA b (xM hb (by omega))),xk,xk,vO,Xu,za (decide_eq_true h)]
  have hi:=xA eT (xM Tz (by omega))
  have hi:(qL (false,(([]:List Int),(([]:List Int),())))).run=_:=hi
  refine⟨norm eT,?_⟩
  rw[if_pos h,show decide (val b≠0)=false by simp[h]]
  rw[z6 hi,z7]
 ·refine⟨qR 0,?_⟩
  rw[HF a b ha hb h,if_neg h,show decide (val b≠0)=true by simp[h]]
abbrev AC:=List (Int×Q)×Q
def qw(t:Int×Q):Term:=(t.1,(qR t.2,()))
def qZ(s:Int)(c:AC):wF:=(s,(c.1.map qw,(qR c.2,())))
def vc(v:Int)(q:Q):List (Int×Q):=if q=0 then[]else[(v,q)]
def ZM(vk:Q):List (Int×Q)→List (Int×Q)
 | []=>[]
 | t::r=>vc t.1 (t.2*vk)++ZM vk r
def Ym(vk:Q)(c:AC):AC:=(ZM vk c.1,c.2*vk)
def ft:Nat→List (Int×Q)→List (Int×Q)→List (Int×Q)
 | 0,_,_=>[]
 | n+1,[],[]=>[]
 | n+1,t::r,[]=>vc t.1 t.2++ft n r []
 | n+1,[],u::m=>vc u.1 u.2++ft n [] m
 | n+1,t::r,u::m=>if t.1<u.1 then vc t.1 t.2++ft n r (u::m)else if u.1<t.1 then vc u.1 u.2++ft n (t::r) m else vc t.1 (t.2+u.2)++ft n r m
def adC(a b:AC):AC:=(ft (a.1.length+b.1.length) a.1 b.1,a.2+b.2)
def Vt(k:Nat)(c:AC):Prop:=qX c.2≤k∧∀ t∈c.1,qX t.2≤k
theorem Gv(p q:Q)(hp:qX p≤10000000)(hq:qX q≤10000000):(fh (qR p) (qR q)).run=some (qR (p*q)):=by
 have:=Vo (qR p) (qR q) (qF hp) (qF hq)
 rwa [xX,xX]at this
theorem Qb(p q:Q)(hp:qX p≤10000000)(hq:qX q≤10000000):(kf (qR p) (qR q)).run=some (qR (p*q)):=by
 have:=XJ (qR p) (qR q) (qF hp) (qF hq)
 rwa [xX,xX]at this
theorem YW(p q:Q)(hp:qX p≤10000000)(hq:qX q≤10000000):(lS (qR p) (qR q)).run=some (qR (p+q)):=by
 have:=Ec (qR p) (qR q) (qF hp) (qF hq)
 rwa [xX,xX]at this
theorem oC(p q:Q)(hp:qX p≤10000000)(hq:qX q≤10000000):(k8 (qR p) (qR q)).run=some (qR (p+q)):=by
 have:=X3 (qR p) (qR q) (qF hp) (qF hq)
 rwa [xX,xX]at this
theorem Jt(p:Q)(hp:qX p≤10000000):(dm (qR p)).run=some (decide (p=0)):=by
 have:=Hs (qR p) (qF hp)
 rwa [xX]at this
theorem Vw(p:Q)(hp:qX p≤10000000):(fA (qR p)).run=some (decide (p=0)):=by
 have:=Yw (qR p) (qF hp)
 rwa [xX]at this
theorem Qf(p:Q)(hp:qX p≤10000000):(xV (qR p)).run=some (qR p):=by
 have:=ji (qR p) (xM (qF hp) (by omega))
 rwa [xk,xX]at this
theorem mg(p:Q)(hp:qX p≤10000000):(qL (qR p)).run=some (qR p):=by
 have:=xA (qR p) (xM (qF hp) (by omega))
 rwa [xk,xX]at this
theorem cR(v:Int)(q:Q):(vc v q).length≤1:=by unfold vc; split<;>simp
theorem bF(b:Q):∀ l:List (Int×Q),(ZM b l).length≤l.length
 | []=>Nat.le_refl _
 | t::r=>by
  show(vc t.1 (t.2*b)++ZM b r).length≤r.length+1
  rw[List.length_append]
  have:=cR t.1 (t.2*b)
  have:=bF b r
  omega
theorem z1b(vk:Q)(hb:qX vk≤1000000)(s:Int)(k0:Rat)(l:List (Int×Q))(hl:l.length≤1000000)(hq:∀ t∈l,qX t.2≤1000000) :
  ∃ v,(eW (qR vk) (l.map qw) (l.length:Int) ((0:Int),(((0:Int),(false,(([]:List Int),(([]:List Int),())))),((s,(k0.1,(k0.2.1,(k0.2.2.1,())))),(([]:List Term),([]:List Term)))))).run=some (v,((s,k0),(([]:List Term),(ZM vk l).map qw))):=by
 have key:∀ (m k:Nat) (acc:List Term) (v:Int×Rat),k+m=l.length→acc.length≤k→∃ v',(eW (qR vk) (l.map qw) (l.length:Int) ((k:Int),(v,((s,k0),(([]:List Term),acc))))).run=some (v',((s,k0),(([]:List Term),acc++(ZM vk (l.drop k)).map qw))):=by
  intro m
  induction m with
  | zero =>
   intro k acc v hk ha
   have:k=l.length:=by omega
   subst this
   rw[List.drop_length]
   refine⟨v,ql ?_⟩
   unfold hZ
   dsimp only
   rw[z8 (xo _),ze _ rfl rfl rfl,ze _ rfl rfl rfl,zy _ rfl,zy _ rfl,z7]
   show _=some (Sum.inr (v,((s,k0),(([]:List Term),acc++([]:List Term)))))
   rw[List.append_nil]
  | succ m ih =>
   intro k acc v hk ha
   have h1:k<l.length:=by omega
   have nG:k<(l.map qw).length:=by rw[List.length_map]; exact h1
   have hqk:=hq _ (List.getElem_mem h1)
   have hm:=Gv l[k].2 vk (by omega) (by omega)
   have hml:=dq l[k].2 vk
   have hz:=Jt (l[k].2*vk) (by omega)
   have Tq:(hZ (qR vk) (l.map qw) (l.length:Int) ((k:Int),(v,((s,k0),(([]:List Term),acc))))).run=some (.inl (((k+1:Nat):Int),(v,((s,k0),(([]:List Term),acc++(vc l[k].1 (l[k].2*vk)).map qw))))):=by
    unfold hZ
    dsimp only
    rw[za (qQ h1),zc (zo nG),xh nG,List.getElem_map]
    show(T.bind (fh (qR l[k].2) (qR vk)) _).run=_
    rw[z6 hm,z6 hz]
    unfold vc
    by_cases c:l[k].2*vk=0
    ·rw[if_pos c,z8 (by rw[decide_eq_true c]; rfl),ze _ rfl rfl rfl,ze _ rfl rfl rfl,zy _ rfl,zy _ rfl,z7,vA k _ h1 (by omega)]
     show _=some (Sum.inl (_,(v,((s,k0),([],acc++([]:List Term))))))
     rw[List.append_nil]
    ·rw[if_neg c,za (by rw[decide_eq_false c]; rfl),xi _ rfl rfl rfl (by omega),ze _ rfl rfl rfl,ze _ (by simp) rfl (by simp),zy _ rfl,zy _ (by simp),z7,vA k _ h1 (by omega)]
     rfl
   have hll:=cR l[k].1 (l[k].2*vk)
   obtain⟨v',hv⟩:=ih (k+1) (acc++(vc l[k].1 (l[k].2*vk)).map qw) v (by omega) (by rw[List.length_append,List.length_map]; omega)
   refine⟨v',(qK Tq).trans (hv.trans ?_)⟩
   rw[List.drop_eq_getElem_cons h1]
   show _=some (v',((s,k0),([],acc++(vc l[k].1 (l[k].2*vk)++ZM vk (l.drop (k+1))).map qw)))
   rw[List.map_append,List.append_assoc]
 obtain⟨v',h⟩:=key l.length 0 [] (0,eT) (by omega) (by simp)
 rw[List.drop_zero,List.nil_append]at h
 exact⟨v',h⟩
theorem jy(vk:Q)(s:Int)(c:AC)(hb:qX vk≤1000000)(hc:Vt 1000000 c)(hl:c.1.length≤1000000):(uM (qZ s c) (qR vk)).run=some (qZ s (Ym vk c)):=by
 have hm:=Gv c.2 vk (by have:=hc.1; omega) (by omega)
 obtain⟨v,hL⟩:=z1b vk hb s (qR (c.2*vk)) c.1 hl hc.2
 unfold uM
 show(T.bind (fh (qR c.2) (qR vk)) _).run=_
 rw[z6 hm,ze _ rfl rfl rfl,ze _ rfl rfl rfl,zy _ rfl,zy _ rfl]
 have hL:(eW (qR vk) (qZ s c).2.1 (Nat.cast (List.length (qZ s c).2.1):Int) ((0:Int),(((0:Int),(false,(([]:List Int),(([]:List Int),())))),(((qZ s c).1,((qR (c.2*vk)).1,((qR (c.2*vk)).2.1,((qR (c.2*vk)).2.2.1,())))),(([]:List Term),([]:List Term)))))).run=some (v,((s,qR (c.2*vk)),(([]:List Term),(ZM vk c.1).map qw))):=by
  have e:(List.length (qZ s c).2.1)=c.1.length:=by show(c.1.map qw).length=_; rw[List.length_map]
  rw[e]; exact hL
 rw[z6 hL]
 dsimp only
 rw[zy _ rfl,z7,Nat.zero_add,List.take_length,List.drop_zero]
 rfl
theorem J6(v:Int)(q:Q)(l:List Term)(hq:qX q≤10000000)(hl:l.length≤1000000000):(vG v (qR q) l).run=some (l++(vc v q).map qw):=by
 unfold vG vc
 rw[z6 (Vw q hq)]
 by_cases c:q=0
 ·rw[if_pos c,za (decide_eq_true c),ze _ rfl rfl rfl,zy _ rfl,z7]
  show some l=some (l++([]:List Term))
  rw[List.append_nil]
 ·rw[if_neg c,z8 (decide_eq_false c),z6 (mg q hq),xi _ rfl rfl rfl (by omega),ze _ (by simp) rfl (by simp),zy _ (by simp),z7]
  rfl
theorem uV(vk:Q)(s:Int)(c:AC)(hb:qX vk≤1000000)(hc:Vt 1000000 c)(hl:c.1.length≤1000000):(vi (qZ s c) (qR vk)).run=some (qZ s (Ym vk c)):=by
 have hm:=Qb c.2 vk (by have:=hc.1; omega) (by omega)
 have key:∀ (m k:Nat) (acc:List Term) (v:Int×Rat) (k0:Rat),k+m=c.1.length→acc.length≤k→∃ v',(mE (qZ s c) (qR vk) ((k:Int),(v,((s,k0),(([]:List Term),acc))))).run=some (v',((s,k0),(([]:List Term),acc++(ZM vk (c.1.drop k)).map qw))):=by
  intro m
  induction m with
  | zero =>
   intro k acc v k0 hk ha
   have:k=c.1.length:=by omega
   subst this
   rw[List.drop_length]
   refine⟨v,ql ?_⟩
   unfold yX
   dsimp only
   rw[show(qZ s c).2.1=c.1.map qw from rfl,List.length_map,z8 (xo _),ze _ rfl rfl rfl,ze _ rfl rfl rfl,zy _ rfl,zy _ rfl,z7]
   show some (Sum.inr (v,((s,k0),(([]:List Term),acc))))=some (Sum.inr (v,((s,k0),(([]:List Term),acc++([]:List Term)))))
   rw[List.append_nil]
  | succ m ih =>
   intro k acc v k0 hk ha
   have h1:k<c.1.length:=by omega
   have nG:k<(c.1.map qw).length:=by rw[List.length_map]; exact h1
   have hqk:=hc.2 _ (List.getElem_mem h1)
   have hm:=Qb c.1[k].2 vk (by omega) (by omega)
   have hml:=dq c.1[k].2 vk
   have hla:=J6 c.1[k].1 (c.1[k].2*vk) acc (by omega) (by omega)
   have hll:=cR c.1[k].1 (c.1[k].2*vk)
   have Tq:(yX (qZ s c) (qR vk) ((k:Int),(v,((s,k0),(([]:List Term),acc))))).run=some (.inl (((k+1:Nat):Int),(v,((s,k0),(([]:List Term),acc++(vc c.1[k].1 (c.1[k].2*vk)).map qw))))):=by
    unfold yX
    dsimp only
    rw[show(qZ s c).2.1=c.1.map qw from rfl,za (by rw[List.length_map]; exact qQ h1),zc (zo nG),zc (zo nG),xh nG,List.getElem_map]
    show(T.bind (kf (qR c.1[k].2) (qR vk)) _).run=_
    rw[z6 hm,ze _ rfl rfl rfl,zy _ rfl]
    show(T.bind (vG c.1[k].1 (qR (c.1[k].2*vk)) acc) _).run=_
    rw[z6 hla,ze _ rfl rfl rfl,ze _ rfl rfl rfl,zy _ rfl,zy _ rfl,z7,vA k _ h1 (by omega)]
   obtain⟨v',hv⟩:=ih (k+1) (acc++(vc c.1[k].1 (c.1[k].2*vk)).map qw) v k0 (by omega) (by rw[List.length_append,List.length_map]; omega)
   refine⟨v',(qK Tq).trans (hv.trans ?_)⟩
   rw[List.drop_eq_getElem_cons h1]
   show _=some (v',((s,k0),([],acc++(vc c.1[k].1 (c.1[k].2*vk)++ZM vk (c.1.drop (k+1))).map qw)))
   rw[List.map_append,List.append_assoc]
 obtain⟨v,hL⟩:=key c.1.length 0 [] (0,eT) (qR (c.2*vk)) (by omega) (by simp)
 rw[List.drop_zero,List.nil_append]at hL
 unfold vi
 show(T.bind (kf (qR c.2) (qR vk)) _).run=_
 rw[z6 hm,ze _ rfl rfl rfl,ze _ rfl rfl rfl,zy _ rfl,zy _ rfl]
 have hL:(mE (qZ s c) (qR vk) ((0:Int),(((0:Int),(false,(([]:List Int),(([]:List Int),())))),(((qZ s c).1,((qR (c.2*vk)).1,((qR (c.2*vk)).2.1,((qR (c.2*vk)).2.2.1,())))),(([]:List Term),([]:List Term)))))).run=some (v,((s,qR (c.2*vk)),(([]:List Term),(ZM vk c.1).map qw))):=hL
 rw[z6 hL]
 dsimp only
 rw[zy _ rfl,z7,Nat.zero_add,List.take_length,List.drop_zero]
 rfl
theorem z3j(n:Nat):ft n [] []=[]:=by cases n<;>rfl
theorem oG(s s2:Int)(a b:AC)(ha:Vt 1000000 a)(hb:Vt 1000000 b)(la:a.1.length≤1000000)(lb:b.1.length≤1000000):(di (qZ s a) (qZ s2 b)).run=some (qZ s (adC a b)):=by
 have hm:=oC a.2 b.2 (by have:=ha.1; omega) (by have:=hb.1; omega)
 have key:∀ (m i k:Nat) (acc:List Term) (v:Int×Rat) (k0:Rat),i≤a.1.length→k≤b.1.length→(a.1.length-i)+(b.1.length-k)≤m→acc.length≤i+k →
   ∃ v',(gD (qZ s a) (qZ s2 b) ((i:Int),((k:Int),(v,((s,k0),(([]:List Term),acc)))))).run=some (v',((s,k0),(([]:List Term),acc++(ft m (a.1.drop i) (b.1.drop k)).map qw))):=by
  intro m
  induction m with
  | zero =>
   intro i k acc v k0 hi hk hm ha
   have e1:i=a.1.length:=by omega
   have e2:k=b.1.length:=by omega
   subst e1 e2
   refine⟨v,ql ?_⟩
   unfold j5
   dsimp only
   rw[show(qZ s a).2.1=a.1.map qw from rfl,show(qZ s2 b).2.1=b.1.map qw from rfl,List.length_map,List.length_map,z8 (by rw[xo,xo]; rfl),ze _ rfl rfl rfl,ze _ rfl rfl rfl,zy _ rfl,zy _ rfl,z7]
   show some (Sum.inr (v,((s,k0),(([]:List Term),acc))))=some (Sum.inr (v,((s,k0),(([]:List Term),acc++([]:List Term)))))
   rw[List.append_nil]
  | succ m ih =>
   intro i k acc v k0 hi hk hm IB
   by_cases Ji:i=a.1.length∧k=b.1.length
   ·obtain⟨e1,e2⟩:=Ji
    subst e1 e2
    refine⟨v,ql ?_⟩
    rw[List.drop_length,List.drop_length,z3j]
    unfold j5
    dsimp only
    rw[show(qZ s a).2.1=a.1.map qw from rfl,show(qZ s2 b).2.1=b.1.map qw from rfl,List.length_map,List.length_map,z8 (by rw[xo,xo]; rfl),ze _ rfl rfl rfl,ze _ rfl rfl rfl,zy _ rfl,zy _ rfl,z7]
    show some (Sum.inr (v,((s,k0),(([]:List Term),acc))))=some (Sum.inr (v,((s,k0),(([]:List Term),acc++([]:List Term)))))
    rw[List.append_nil]
   ·-- which of the two goes on
    have go:∀ (i' k':Nat) (t:Int) (q:Q),(j5 (qZ s a) (qZ s2 b) ((i:Int),((k:Int),(v,((s,k0),(([]:List Term),acc)))))).run=some (.inl ((i':Int),((k':Int),(v,((s,k0),(([]:List Term),acc++(vc t q).map qw)))))) →
      i'≤a.1.length→k'≤b.1.length→(a.1.length-i')+(b.1.length-k')≤m→i+k+1≤i'+k'→ft (m+1) (a.1.drop i) (b.1.drop k)=vc t q++ft m (a.1.drop i') (b.1.drop k') →
      ∃ v',(gD (qZ s a) (qZ s2 b) ((i:Int),((k:Int),(v,((s,k0),(([]:List Term),acc)))))).run=some (v',((s,k0),(([]:List Term),acc++(ft (m+1) (a.1.drop i) (b.1.drop k)).map qw))):=by
     intro i' k' t q xR h1 h2 h3 h4 h5
     have hll:=cR t q
     obtain⟨v',hv⟩:=ih i' k' (acc++(vc t q).map qw) v k0 h1 h2 h3 (by rw[List.length_append,List.length_map]; omega)
     refine⟨v',(qK xR).trans (hv.trans ?_)⟩
     rw[h5,List.map_append,List.append_assoc]
    have hqa:=ha.2
    have hqb:=hb.2
    have c0:(decide ((i:Int)<(a.1.length:Int))||decide ((k:Int)<(b.1.length:Int)))=true:=by
     by_cases h:i<a.1.length
     ·rw[qQ h]; rfl
     ·rw[qQ (show k<b.1.length by omega),Bool.or_true]
    -- the first goes on
    have one:∀ (oz:i<a.1.length),(((k:Int)==(b.1.length:Int))||(decide ((i:Int)<(a.1.length:Int))&&decide ((nth (a.1.map qw) (i:Int) (zb zp)).1<(nth (b.1.map qw) (k:Int) (zb zp)).1)))=true →
      ft (m+1) (a.1.drop i) (b.1.drop k)=vc a.1[i].1 a.1[i].2++ft m (a.1.drop (i+1)) (b.1.drop k) →
      ∃ v',(gD (qZ s a) (qZ s2 b) ((i:Int),((k:Int),(v,((s,k0),(([]:List Term),acc)))))).run=some (v',((s,k0),(([]:List Term),acc++(ft (m+1) (a.1.drop i) (b.1.drop k)).map qw))):=by
     intro oz hc hA
     have F2:i<(a.1.map qw).length:=by rw[List.length_map]; exact oz
     have hqk:=hqa _ (List.getElem_mem oz)
     have hla:=J6 a.1[i].1 a.1[i].2 acc (by omega) (by omega)
     refine go (i+1) k a.1[i].1 a.1[i].2 ?_ (by omega) hk (by omega) (by omega) hA
     unfold j5
     dsimp only
     rw[show(qZ s a).2.1=a.1.map qw from rfl,show(qZ s2 b).2.1=b.1.map qw from rfl,List.length_map,List.length_map,za c0,
      zc (fun hkb _=>⟨zo oz,by have:k≠b.1.length:=(by rintro rfl; simp at hkb); exact zo (by omega)⟩),za hc,zc (zo oz),zc (zo oz),ze _ rfl rfl rfl,zy _ rfl,xh F2,List.getElem_map]
     show(T.bind (vG a.1[i].1 (qR a.1[i].2) acc) _).run=_
     rw[z6 hla,ze _ rfl rfl rfl,ze _ rfl rfl rfl,zy _ rfl,zy _ rfl,z7,vA i _ oz (by omega)]
    have two:∀ (X6:k<b.1.length),(((k:Int)==(b.1.length:Int))||(decide ((i:Int)<(a.1.length:Int))&&decide ((nth (a.1.map qw) (i:Int) (zb zp)).1<(nth (b.1.map qw) (k:Int) (zb zp)).1)))=false →
      (((i:Int)==(a.1.length:Int))||decide ((nth (b.1.map qw) (k:Int) (zb zp)).1<(nth (a.1.map qw) (i:Int) (zb zp)).1))=true →
      ft (m+1) (a.1.drop i) (b.1.drop k)=vc b.1[k].1 b.1[k].2++ft m (a.1.drop i) (b.1.drop (k+1)) →
      ∃ v',(gD (qZ s a) (qZ s2 b) ((i:Int),((k:Int),(v,((s,k0),(([]:List Term),acc)))))).run=some (v',((s,k0),(([]:List Term),acc++(ft (m+1) (a.1.drop i) (b.1.drop k)).map qw))):=by
     intro X6 hc RW hA
     have z1v:k<(b.1.map qw).length:=by rw[List.length_map]; exact X6
     have hqk:=hqb _ (List.getElem_mem X6)
     have hla:=J6 b.1[k].1 b.1[k].2 acc (by omega) (by omega)
     refine go i (k+1) b.1[k].1 b.1[k].2 ?_ hi (by omega) (by omega) (by omega) hA
     unfold j5
     dsimp only
     rw[show(qZ s a).2.1=a.1.map qw from rfl,show(qZ s2 b).2.1=b.1.map qw from rfl,List.length_map,List.length_map,za c0,
      zc (fun _ hia=>⟨zo (by simpa using hia),zo X6⟩),z8 hc,
      zc (fun hia=>⟨zo X6,by have:i≠a.1.length:=(by rintro rfl; simp at hia); exact zo (by omega)⟩),za RW,zc (zo X6),zc (zo X6),ze _ rfl rfl rfl,zy _ rfl,xh z1v,List.getElem_map]
     show(T.bind (vG b.1[k].1 (qR b.1[k].2) acc) _).run=_
     rw[z6 hla,ze _ rfl rfl rfl,ze _ rfl rfl rfl,zy _ rfl,zy _ rfl,z7,vA k _ X6 (by omega)]
    have kk:∀ h:k<b.1.length,((k:Int)==(b.1.length:Int))=false:=fun h=>by rw[beq_eq_false_iff_ne]; omega
    by_cases gk:k=b.1.length
    ·have oz:i<a.1.length:=by omega
     refine one oz (by rw[gk]; simp) ?_
     subst gk
     rw[List.drop_length,List.drop_eq_getElem_cons oz]
     rfl
    ·have X6:k<b.1.length:=by omega
     have z1v:k<(b.1.map qw).length:=by rw[List.length_map]; exact X6
     by_cases QJ:i=a.1.length
     ·refine two X6 (by rw[kk X6,QJ,xo]; rfl) (by rw[QJ]; simp) ?_
      subst QJ
      rw[List.drop_length,List.drop_eq_getElem_cons X6]
      rfl
     ·have oz:i<a.1.length:=by omega
      have F2:i<(a.1.map qw).length:=by rw[List.length_map]; exact oz
      have en:(nth (a.1.map qw) (i:Int) (zb zp)).1=a.1[i].1:=by rw[xh F2,List.getElem_map]; rfl
      have em:(nth (b.1.map qw) (k:Int) (zb zp)).1=b.1[k].1:=by rw[xh z1v,List.getElem_map]; rfl
      have ii:((i:Int)==(a.1.length:Int))=false:=by rw[beq_eq_false_iff_ne]; omega
      by_cases c1:a.1[i].1<b.1[k].1
      ·refine one oz (by rw[en,em,decide_eq_true c1,qQ oz]; simp) ?_
       rw[List.drop_eq_getElem_cons oz,List.drop_eq_getElem_cons X6]
       show(if a.1[i].1<b.1[k].1 then _ else _)=_
       rw[if_pos c1]
      ·have FI:(((k:Int)==(b.1.length:Int))||(decide ((i:Int)<(a.1.length:Int))&&decide ((nth (a.1.map qw) (i:Int) (zb zp)).1<(nth (b.1.map qw) (k:Int) (zb zp)).1)))=false:=by
        rw[en,em,decide_eq_false c1,kk X6]; simp
       by_cases c2:b.1[k].1<a.1[i].1
       ·refine two X6 FI (by rw[en,em,decide_eq_true c2]; simp) ?_
        rw[List.drop_eq_getElem_cons oz,List.drop_eq_getElem_cons X6]
        show(if a.1[i].1<b.1[k].1 then _ else if b.1[k].1<a.1[i].1 then _ else _)=_
        rw[if_neg c1,if_pos c2]
       ·have q1:=hqa _ (List.getElem_mem oz)
        have q2:=hqb _ (List.getElem_mem X6)
        have hml:=iu a.1[i].2 b.1[k].2
        have Jy:=oC a.1[i].2 b.1[k].2 (by omega) (by omega)
        have hla:=J6 a.1[i].1 (a.1[i].2+b.1[k].2) acc (by omega) (by omega)
        refine go (i+1) (k+1) a.1[i].1 (a.1[i].2+b.1[k].2) ?_ (by omega) (by omega) (by omega) (by omega) ?_
        ·unfold j5
         dsimp only
         rw[show(qZ s a).2.1=a.1.map qw from rfl,show(qZ s2 b).2.1=b.1.map qw from rfl,List.length_map,List.length_map,za c0,
          zc (fun _ _=>⟨zo oz,zo X6⟩),z8 FI,zc (fun _=>⟨zo X6,zo oz⟩),z8 (by rw[en,em,decide_eq_false c2,ii]; rfl),zc (zo oz),zc (zo oz),zc (zo X6),xh F2,xh z1v,List.getElem_map,List.getElem_map]
         show(T.bind (k8 (qR a.1[i].2) (qR b.1[k].2)) _).run=_
         rw[z6 Jy,ze _ rfl rfl rfl,zy _ rfl]
         show(T.bind (vG a.1[i].1 (qR (a.1[i].2+b.1[k].2)) acc) _).run=_
         rw[z6 hla,ze _ rfl rfl rfl,ze _ rfl rfl rfl,zy _ rfl,zy _ rfl,z7,vA i _ oz (by omega),vA k _ X6 (by omega)]
        ·rw[List.drop_eq_getElem_cons oz,List.drop_eq_getElem_cons X6]
         show(if a.1[i].1<b.1[k].1 then _ else if b.1[k].1<a.1[i].1 then _ else _)=_
         rw[if_neg c1,if_neg c2]
 obtain⟨v,hL⟩:=key (a.1.length+b.1.length) 0 0 [] (0,eT) (qR (a.2+b.2)) (by omega) (by omega) (by omega) (by simp)
 rw[List.drop_zero,List.drop_zero,List.nil_append]at hL
 unfold di
 show(T.bind (k8 (qR a.2) (qR b.2)) _).run=_
 rw[z6 hm,ze _ rfl rfl rfl,ze _ rfl rfl rfl,zy _ rfl,zy _ rfl]
 have hL:(gD (qZ s a) (qZ s2 b) ((0:Int),((0:Int),(((0:Int),(false,(([]:List Int),(([]:List Int),())))),(((qZ s a).1,((qR (a.2+b.2)).1,((qR (a.2+b.2)).2.1,((qR (a.2+b.2)).2.2.1,())))),(([]:List Term),([]:List Term))))))).run=some (v,((s,qR (a.2+b.2)),(([]:List Term),(ft (a.1.length+b.1.length) a.1 b.1).map qw))):=hL
 rw[z6 hL]
 dsimp only
 rw[zy _ rfl,z7,Nat.zero_add,List.take_length,List.drop_zero]
 rfl
theorem nz(t:Int×Q)(r:List (Int×Q)):uz (e:=zp) (1:Int) (((List.map qw (t::r)).length:Nat):Int) (List.map qw (t::r))=r.map qw:=by
 unfold uz
 rw[Int.toNat_natCast,List.take_length]
 rfl
theorem rY(s s2:Int)(a b:AC)(ha:Vt 1000000 a)(hb:Vt 1000000 b)(la:a.1.length≤1000000)(lb:b.1.length≤1000000):(tR (qZ s a) (qZ s2 b)).run=some (qZ s (adC a b)):=by
 have hm:=YW a.2 b.2 (by have:=ha.1; omega) (by have:=hb.1; omega)
 have key:∀ (n:Nat) (l m:List (Int×Q)) (acc:List Term) (v:Int×Rat) (k0:Rat),l.length+m.length≤n→acc.length+(l.length+m.length)≤10000000→(∀ t∈l,qX t.2≤1000000)→(∀ t∈m,qX t.2≤1000000) →
   ∃ v',(oo (l.map qw,(m.map qw,(v,((s,k0),(([]:List Term),acc)))))).run=some (v',((s,k0),(([]:List Term),acc++(ft n l m).map qw))):=by
  intro n
  induction n with
  | zero =>
   intro l m acc v k0 hn IB hl hm
   have e1:l=[]:=List.eq_nil_of_length_eq_zero (by omega)
   have e2:m=[]:=List.eq_nil_of_length_eq_zero (by omega)
   subst e1 e2
   refine⟨v,ql ?_⟩
   show(vg (([]:List Term),(([]:List Term),(v,((s,k0),(([]:List Term),acc)))))).run=some (.inr (v,((s,k0),(([]:List Term),acc++([]:List Term)))))
   rw[List.append_nil]
   unfold vg
   dsimp only
   rw[z8 (by rfl),ze _ rfl rfl rfl,ze _ rfl rfl rfl,zy _ rfl,zy _ rfl,z7]
  | succ n ih =>
   intro l m acc v k0 hn IB hl hm
   by_cases Ji:l=[]∧m=[]
   ·obtain⟨rfl,rfl⟩:=Ji
    refine⟨v,ql ?_⟩
    show(vg (([]:List Term),(([]:List Term),(v,((s,k0),(([]:List Term),acc)))))).run=some (.inr (v,((s,k0),(([]:List Term),acc++([]:List Term)))))
    rw[List.append_nil]
    unfold vg
    dsimp only
    rw[z8 (by rfl),ze _ rfl rfl rfl,ze _ rfl rfl rfl,zy _ rfl,zy _ rfl,z7]
   ·have Va:0<l.length+m.length:=by
     cases l with
     | nil=>cases m with
      | nil=>exact absurd ⟨rfl,rfl⟩ Ji
      | cons=>simp
     | cons=>simp; omega
    have c0:decide ((0:Int)<(zu (((l.map qw).length:Int)+((m.map qw).length:Int))))=true:=by
     rw[List.length_map,List.length_map,zQ (by omega) (by omega)]
     exact decide_eq_true (by omega)
    -- what is laid
    have lay:∀ (l' m':List (Int×Q)) (t:Int) (q:Q),qX q≤10000000 →
      ((T.bind (dm ((qw (t,q)).2.1.1,((qw (t,q)).2.1.2.1,((qw (t,q)).2.1.2.2.1,())))) fun r4 =>
       .ite (!r4)
        (.zd (xF (List.length acc) (List.length acc) (0:Nat) (List.length acc) (List.length acc) (1:Nat) (64:Nat)) <|
         .zd (zh (List.length ([]:List Term)) (0:Nat) (List.length ([]:List Term)) (List.length ([]:List Term))) <|
         .zd (zh ((List.length acc)+(1:Nat)) (0:Nat) ((List.length acc)+(1:Nat)) (List.length (acc++([qw (t,q)]:List Term)))) <|
         .zd ((List.length ([]:List Term))=(List.length ([]:List Term))) <|
         .zd (((List.length acc)+(1:Nat))=(List.length (acc++([qw (t,q)]:List Term)))) <|
         .ret (.inl (l'.map qw,(m'.map qw,(v,((s,k0),(([]:List Term),(acc++([qw (t,q)]:List Term)))))))))
        (.zd (zh (List.length ([]:List Term)) (0:Nat) (List.length ([]:List Term)) (List.length ([]:List Term))) <|
         .zd (zh (List.length acc) (0:Nat) (List.length acc) (List.length acc)) <|
         .zd ((List.length ([]:List Term))=(List.length ([]:List Term))) <|
         .zd ((List.length acc)=(List.length acc)) <|
         .ret (.inl (l'.map qw,(m'.map qw,(v,((s,k0),(([]:List Term),acc)))))))):T (((List Term)×(List Term)×(Int×Rat)×(Int×Rat)×(List Term)×(List Term))⊕((Int×Rat)×(Int×Rat)×(List Term)×(List Term)))).run =
      some (.inl (l'.map qw,(m'.map qw,(v,((s,k0),(([]:List Term),acc++(vc t q).map qw)))))):=by
     intro l' m' t q hq
     have hz:=Jt q hq
     show(T.bind (dm (qR q)) _).run=_
     rw[z6 hz]
     unfold vc
     by_cases c:q=0
     ·rw[if_pos c,z8 (by rw[decide_eq_true c]; rfl),ze _ rfl rfl rfl,ze _ rfl rfl rfl,zy _ rfl,zy _ rfl,z7]
      show _=some (Sum.inl (_,(_,(v,((s,k0),([],acc++([]:List Term)))))))
      rw[List.append_nil]
     ·rw[if_neg c,za (by rw[decide_eq_false c]; rfl),xi _ rfl rfl rfl (by omega),ze _ rfl rfl rfl,ze _ (by simp) rfl (by simp),zy _ rfl,zy _ (by simp),z7]
      rfl
    have on:∀ (l' m':List (Int×Q)) (t:Int) (q:Q),(vg (l.map qw,(m.map qw,(v,((s,k0),(([]:List Term),acc)))))).run=some (.inl (l'.map qw,(m'.map qw,(v,((s,k0),(([]:List Term),acc++(vc t q).map qw)))))) →
      l'.length+m'.length+1≤l.length+m.length→(∀ t∈l',qX t.2≤1000000)→(∀ t∈m',qX t.2≤1000000)→ft (n+1) l m=vc t q++ft n l' m' →
      ∃ v',(oo (l.map qw,(m.map qw,(v,((s,k0),(([]:List Term),acc)))))).run=some (v',((s,k0),(([]:List Term),acc++(ft (n+1) l m).map qw))):=by
     intro l' m' t q xR h1 h2 h3 h4
     have hll:=cR t q
     obtain⟨v',hv⟩:=ih l' m' (acc++(vc t q).map qw) v k0 (by omega) (by rw[List.length_append,List.length_map]; omega) h2 h3
     refine⟨v',(qK xR).trans (hv.trans ?_)⟩
     rw[h4,List.map_append,List.append_assoc]
    have i0:∀ (t:Int×Q) (r:List (Int×Q)),zi (0:Int) ((List.map qw (t::r)).length):=fun t r=>⟨by omega,by simp only[List.length_map,List.length_cons]; omega⟩
    have s1:∀ (t:Int×Q) (r:List (Int×Q)),nj (1:Int) (((List.map qw (t::r)).length:Nat):Int) ((List.map qw (t::r)).length):=fun t r=>⟨by omega,by simp only[List.length_map,List.length_cons]; omega,by omega⟩
    have n0:∀ (t:Int×Q) (r:List (Int×Q)),nth (List.map qw (t::r)) (0:Int) (zb zp)=qw t:=fun t r=>rfl
    have ln:∀ (t:Int×Q) (r:List (Int×Q)),((((List.map qw (t::r)).length:Nat):Int)==0)=false:=fun t r=>by rw[beq_eq_false_iff_ne]; simp only[List.length_map,List.length_cons]; omega
    have lp:∀ (t:Int×Q) (r:List (Int×Q)),decide ((0:Int)<(((List.map qw (t::r)).length:Nat):Int))=true:=fun t r=>decide_eq_true (by simp only[List.length_map,List.length_cons]; omega)
    cases l with
    | nil =>
     cases m with
     | nil=>exact absurd ⟨rfl,rfl⟩ Ji
     | cons u m =>
      have hqu:=hm u List.mem_cons_self
      have N3:=Qf u.2 (by omega)
      refine on [] m u.1 u.2 ?_ (by simp) hl (fun t ht=>hm t (List.mem_cons_of_mem _ ht)) rfl
      unfold vg
      dsimp only
      rw[za c0]
      rw[z6 (a:=(List.map qw [],(List.map qw m,(v,((s,k0),(([]:List Term),(acc,qw (u.1,u.2)))))))) (by
       rw[zc (fun _ h=>by simp at h),z8 (by rw[ln]; rfl),zc (fun h=>by simp at h),za (by rfl),zc (i0 u m),zc (i0 u m),n0]
       show(T.bind (xV (qR u.2)) _).run=_
       rw[z6 N3,zc (s1 u m),ze _ rfl rfl rfl,ze _ rfl rfl rfl,zy _ rfl,zy _ rfl,z7,nz]
       rfl)]
      exact lay [] m u.1 u.2 (by omega)
    | cons t l =>
     have hqt:=hl t List.mem_cons_self
     have hnt:=Qf t.2 (by omega)
     cases m with
     | nil =>
      refine on l [] t.1 t.2 ?_ (by simp) (fun x hx=>hl x (List.mem_cons_of_mem _ hx)) hm rfl
      unfold vg
      dsimp only
      rw[za c0]
      rw[z6 (a:=(List.map qw l,(List.map qw [],(v,((s,k0),(([]:List Term),(acc,qw (t.1,t.2)))))))) (by
       rw[zc (fun h=>by simp at h),za (by rfl),zc (i0 t l),zc (i0 t l),n0]
       show(T.bind (xV (qR t.2)) _).run=_
       rw[z6 hnt,zc (s1 t l),ze _ rfl rfl rfl,ze _ rfl rfl rfl,zy _ rfl,zy _ rfl,z7,nz]
       rfl)]
      exact lay l [] t.1 t.2 (by omega)
     | cons u m =>
      have hqu:=hm u List.mem_cons_self
      have N3:=Qf u.2 (by omega)
      have hml:=iu t.2 u.2
      have Jy:=YW t.2 u.2 (by omega) (by omega)
      have hA:ft (n+1) (t::l) (u::m)=if t.1<u.1 then vc t.1 t.2++ft n l (u::m)else if u.1<t.1 then vc u.1 u.2++ft n (t::l) m else vc t.1 (t.2+u.2)++ft n l m:=rfl
      by_cases c1:t.1<u.1
      ·refine on l (u::m) t.1 t.2 ?_ (by simp only[List.length_cons]; omega) (fun x hx=>hl x (List.mem_cons_of_mem _ hx)) hm (by rw[hA,if_pos c1])
       unfold vg
       dsimp only
       rw[za c0]
       rw[z6 (a:=(List.map qw l,(List.map qw (u::m),(v,((s,k0),(([]:List Term),(acc,qw (t.1,t.2)))))))) (by
        rw[zc (fun _ _=>⟨i0 t l,i0 u m⟩),za (by rw[ln,lp,n0,n0]; show(false||(true&&decide (t.1<u.1)))=true; rw[decide_eq_true c1]; rfl),zc (i0 t l),zc (i0 t l),n0]
        show(T.bind (xV (qR t.2)) _).run=_
        rw[z6 hnt,zc (s1 t l),ze _ rfl rfl rfl,ze _ rfl rfl rfl,zy _ rfl,zy _ rfl,z7,nz]
        rfl)]
       exact lay l (u::m) t.1 t.2 (by omega)
      ·by_cases c2:u.1<t.1
       ·refine on (t::l) m u.1 u.2 ?_ (by simp only[List.length_cons]; omega) hl (fun x hx=>hm x (List.mem_cons_of_mem _ hx)) (by rw[hA,if_neg c1,if_pos c2])
        unfold vg
        dsimp only
        rw[za c0]
        rw[z6 (a:=(List.map qw (t::l),(List.map qw m,(v,((s,k0),(([]:List Term),(acc,qw (u.1,u.2)))))))) (by
         rw[zc (fun _ _=>⟨i0 t l,i0 u m⟩),z8 (by rw[ln,lp,n0,n0]; show(false||(true&&decide (t.1<u.1)))=false; rw[decide_eq_false c1]; rfl),zc (fun _=>⟨i0 u m,i0 t l⟩),za (by rw[ln,n0,n0]; show(false||decide (u.1<t.1))=true; rw[decide_eq_true c2]; rfl),zc (i0 u m),zc (i0 u m),n0]
         show(T.bind (xV (qR u.2)) _).run=_
         rw[z6 N3,zc (s1 u m),ze _ rfl rfl rfl,ze _ rfl rfl rfl,zy _ rfl,zy _ rfl,z7,nz]
         rfl)]
        exact lay (t::l) m u.1 u.2 (by omega)
       ·refine on l m t.1 (t.2+u.2) ?_ (by simp only[List.length_cons]; omega) (fun x hx=>hl x (List.mem_cons_of_mem _ hx)) (fun x hx=>hm x (List.mem_cons_of_mem _ hx)) (by rw[hA,if_neg c1,if_neg c2])
        unfold vg
        dsimp only
        rw[za c0]
        rw[z6 (a:=(List.map qw l,(List.map qw m,(v,((s,k0),(([]:List Term),(acc,qw (t.1,t.2+u.2)))))))) (by
         rw[zc (fun _ _=>⟨i0 t l,i0 u m⟩),z8 (by rw[ln,lp,n0,n0]; show(false||(true&&decide (t.1<u.1)))=false; rw[decide_eq_false c1]; rfl),zc (fun _=>⟨i0 u m,i0 t l⟩),z8 (by rw[ln,n0,n0]; show(false||decide (u.1<t.1))=false; rw[decide_eq_false c2]; rfl),zc (i0 t l),zc (i0 t l),zc (i0 u m),n0,n0]
         show(T.bind (lS (qR t.2) (qR u.2)) _).run=_
         rw[z6 Jy,zc (s1 t l),zc (s1 u m),ze _ rfl rfl rfl,ze _ rfl rfl rfl,zy _ rfl,zy _ rfl,z7,nz,nz]
         rfl)]
        exact lay l m t.1 (t.2+u.2) (by omega)
 obtain⟨v,hL⟩:=key (a.1.length+b.1.length) a.1 b.1 [] (0,eT) (qR (a.2+b.2)) (by omega) (by simp; omega) ha.2 hb.2
 rw[List.nil_append]at hL
 unfold tR
 show(T.bind (lS (qR a.2) (qR b.2)) _).run=_
 rw[z6 hm,ze _ rfl rfl rfl,ze _ rfl rfl rfl,zy _ rfl,zy _ rfl]
 have hL:(oo ((qZ s a).2.1,((qZ s2 b).2.1,(((0:Int),(false,(([]:List Int),(([]:List Int),())))),(((qZ s a).1,((qR (a.2+b.2)).1,((qR (a.2+b.2)).2.1,((qR (a.2+b.2)).2.2.1,())))),(([]:List Term),([]:List Term))))))).run=some (v,((s,qR (a.2+b.2)),(([]:List Term),(ft (a.1.length+b.1.length) a.1 b.1).map qw))):=hL
 rw[z6 hL]
 dsimp only
 rw[zy _ rfl,z7,Nat.zero_add,List.take_length,List.drop_zero]
 rfl
abbrev Q5:AC:=([],0)
def zC:wF:=((0:Int),(([]:List Term),((false,(([]:List Int),(([]:List Int),()))),())))
def gC(r:AC×Int):wF×Int:=(if r.2=0 then qZ 0 r.1 else zC,r.2)
theorem vU{k m:Nat}{c:AC}(h:Vt k c)(hk:k≤m):Vt m c:=⟨Nat.le_trans h.1 hk,fun t ht=>Nat.le_trans (h.2 t ht) hk⟩
theorem tC{v:Int}{q:Q}{t:Int×Q}(h:t∈vc v q):t.2=q:=by
 unfold vc at h
 split at h
 ·cases h
 ·rw[List.mem_singleton]at h; rw[h]
theorem SI{b:Q}{k j:Nat}(hb:qX b≤j):∀ {l:List (Int×Q)},(∀ t∈l,qX t.2≤k)→∀ t∈ZM b l,qX t.2≤k+j
 | [],_,t,h=>by cases h
 | u::r,hl,t,h=>by
  have h:t∈vc u.1 (u.2*b)++ZM b r:=h
  rcases List.mem_append.1 h with h | h
  ·rw[tC h]
   have:=dq u.2 b
   have:=hl u List.mem_cons_self
   omega
  ·exact SI hb (fun x hx=>hl x (List.mem_cons_of_mem _ hx)) t h
theorem mw{b:Q}{k j:Nat}{c:AC}(hb:qX b≤j)(h:Vt k c):Vt (k+j) (Ym b c):=by
 refine⟨?_,SI hb h.2⟩
 have:=dq c.2 b
 have:=h.1
 show qX (c.2*b)≤k+j
 omega
theorem WJ{k j:Nat}:∀ (n:Nat) (l m:List (Int×Q)),(∀ t∈l,qX t.2≤k)→(∀ t∈m,qX t.2≤j)→∀ t∈ft n l m,qX t.2≤k+j+1
 | 0,_,_,_,_,t,h=>by cases h
 | n+1,[],[],_,_,t,h=>by cases h
 | n+1,u::r,[],hl,hm,t,h=>by
  have h:t∈vc u.1 u.2++ft n r []:=h
  rcases List.mem_append.1 h with h | h
  ·rw[tC h]; have:=hl u List.mem_cons_self; omega
  ·exact WJ n r [] (fun x hx=>hl x (List.mem_cons_of_mem _ hx)) hm t h
 | n+1,[],u::m,hl,hm,t,h=>by
  have h:t∈vc u.1 u.2++ft n [] m:=h
  rcases List.mem_append.1 h with h | h
  ·rw[tC h]; have:=hm u List.mem_cons_self; omega
  ·exact WJ n [] m hl (fun x hx=>hm x (List.mem_cons_of_mem _ hx)) t h
 | n+1,u::r,w::m,hl,hm,t,h=>by
  have h:t∈(if u.1<w.1 then vc u.1 u.2++ft n r (w::m)else if w.1<u.1 then vc w.1 w.2++ft n (u::r) m else vc u.1 (u.2+w.2)++ft n r m):=h
  have h1:=hl u List.mem_cons_self
  have h2:=hm w List.mem_cons_self
  have M5:∀ t∈r,qX t.2≤k:=fun x hx=>hl x (List.mem_cons_of_mem _ hx)
  have hm':∀ t∈m,qX t.2≤j:=fun x hx=>hm x (List.mem_cons_of_mem _ hx)
  split at h
  ·rcases List.mem_append.1 h with h | h
   ·rw[tC h]; omega
   ·exact WJ n r (w::m) M5 hm t h
  ·split at h
   ·rcases List.mem_append.1 h with h | h
    ·rw[tC h]; omega
    ·exact WJ n (u::r) m hl hm' t h
   ·rcases List.mem_append.1 h with h | h
    ·rw[tC h]; have:=iu u.2 w.2; omega
    ·exact WJ n r m M5 hm' t h
theorem Ip{k j:Nat}{a b:AC}(ha:Vt k a)(hb:Vt j b):Vt (k+j+1) (adC a b):=by
 refine⟨?_,WJ _ _ _ ha.2 hb.2⟩
 have:=iu a.2 b.2
 have:=ha.1
 have:=hb.1
 show qX (a.2+b.2)≤k+j+1
 omega
theorem mc:∀ (n:Nat) (l m:List (Int×Q)),(ft n l m).length≤l.length+m.length
 | 0,_,_=>by show 0≤_; omega
 | n+1,[],[]=>Nat.le_refl _
 | n+1,u::r,[]=>by
  show(vc u.1 u.2++ft n r []).length≤_
  have:=cR u.1 u.2
  have:=mc n r []
  rw[List.length_append,List.length_cons]; omega
 | n+1,[],u::m=>by
  show(vc u.1 u.2++ft n [] m).length≤_
  have:=cR u.1 u.2
  have:=mc n [] m
  rw[List.length_append,List.length_cons]; omega
 | n+1,u::r,w::m=>by
  show(if u.1<w.1 then vc u.1 u.2++ft n r (w::m)else if w.1<u.1 then vc w.1 w.2++ft n (u::r) m else vc u.1 (u.2+w.2)++ft n r m).length≤_
  have h1:=mc n r (w::m)
  have h2:=mc n (u::r) m
  have h3:=mc n r m
  simp only[List.length_cons]at h1 h2 ⊢
  split
  ·have:=cR u.1 u.2; rw[List.length_append]; omega
  ·split
   ·have:=cR w.1 w.2; rw[List.length_append]; omega
   ·have:=cR u.1 (u.2+w.2); rw[List.length_append]; omega
def dP(k:Int)(a b:AC):AC×Int :=
 if k=3 then(adC a b,0)else if k=4 then(adC a (Ym (-1) b),0)
 else if k=5 then(if a.1≠[]∧b.1≠[]then(Q5,6)else if a.1≠[]then(Ym b.2 a,0)else(Ym a.2 b,0))
 else(if b.1≠[]then(Q5,6)else if b.2=0 then(Q5,7)else(Ym (1 / b.2) a,0))
theorem Hw:qX (1:Q)=1:=by
 unfold qX
 show max (zJ 1).length (zJ 1).length=1
 rw[Uf]; rfl
theorem bQ:qX (-1:Q)=1:=by rw[Ya,Hw]
theorem Jp(q:Q):qX (1 / q)≤qX q:=by
 have:=BT q
 rwa [Rat.div_def,Rat.one_mul]
theorem yh(c:AC):decide ((0:Int)<(Nat.cast (List.length (qZ 0 c).2.1):Int))=decide (c.1≠[]):=by
 show decide ((0:Int)<(Nat.cast (List.length (c.1.map qw)):Int))=_
 rw[List.length_map]
 refine decide_eq_decide.2 ?_
 cases c.1 with
 | nil=>simp
 | cons x r=>simp
theorem JE:(j6 (-1:Int)).run=some (qR (-1:Q)):=dQ (-1) ⟨by omega,by omega⟩
theorem Dw:(j6 (1:Int)).run=some (qR (1:Q)):=dQ 1 ⟨by omega,by omega⟩
theorem JC:(xW (-1:Int)).run=some (qR (-1:Q)):=bV (-1) ⟨by omega,by omega⟩
theorem DB:(xW (1:Int)).run=some (qR (1:Q)):=bV 1 ⟨by omega,by omega⟩
theorem FF(k:Int)(a b:AC)(hk:k=3∨k=4∨k=5∨k=6)(ha:Vt 400000 a)(hb:Vt 400000 b)(la:a.1.length≤400000)(lb:b.1.length≤400000):(p9 k (qZ 0 a) (qZ 0 b)).run=some (gC (dP k a b)):=by
 have DU:=vU ha (by omega:400000≤1000000)
 have ZI:=vU hb (by omega:400000≤1000000)
 have m1:=bQ
 unfold p9 dP
 by_cases k3:k=3
 ·rw[if_pos k3,za (by simpa using k3),z6 (rY 0 0 a b DU ZI (by omega) (by omega)),z7]
  rfl
 ·rw[if_neg k3,z8 (by simpa using k3)]
  by_cases k4:k=4
  ·have hs:=mw (b := -1) (j:=1) (by omega) hb
   have hl:=bF (-1) b.1
   rw[if_pos k4,za (by simpa using k4),z6 JE,z6 (jy (-1) 0 b (by omega) ZI (by omega)),z6 (rY 0 0 a (Ym (-1) b) DU (vU hs (by omega)) (by omega) (by show(ZM (-1) b.1).length≤1000000; omega)),z7]
   rfl
  ·rw[if_neg k4,z8 (by simpa using k4)]
   by_cases k5:k=5
   ·rw[if_pos k5,za (by simpa using k5),yh,yh]
    by_cases c:a.1≠[]∧b.1≠[]
    ·rw[if_pos c,za (by rw[decide_eq_true c.1,decide_eq_true c.2]; rfl),z7]; rfl
    ·rw[if_neg c,z8 (by by_cases h:a.1≠[]; rw[decide_eq_false (fun h2=>c ⟨h,h2⟩),Bool.and_false]; rw[decide_eq_false h]; rfl)]
     by_cases c2:a.1≠[]
     ·rw[if_pos c2,za (decide_eq_true c2)]
      show(T.bind (uM (qZ 0 a) (qR b.2)) _).run=_
      rw[z6 (jy b.2 0 a (by have:=hb.1; omega) DU (by omega)),z7]; rfl
     ·rw[if_neg c2,z8 (decide_eq_false c2)]
      show(T.bind (uM (qZ 0 b) (qR a.2)) _).run=_
      rw[z6 (jy a.2 0 b (by have:=ha.1; omega) ZI (by omega)),z7]; rfl
   ·have BN:=hb.1
    have hd:=DI (qR 1) (qR b.2) (qF (by rw[Hw]; omega)) (qF (by omega))
    rw[xX,xX]at hd
    rw[if_neg k5,z8 (by simpa using k5),z6 Dw]
    show(T.bind (X2 (qR 1) (qR b.2)) _).run=_
    rw[z6 hd]
    by_cases c:b.1≠[]
    ·rw[if_pos c]
     by_cases z:b.2=0
     ·rw[if_pos z]; dsimp only; rw[yh,za (decide_eq_true c),z7]; rfl
     ·rw[if_neg z]; dsimp only; rw[yh,za (decide_eq_true c),z7]; rfl
    ·rw[if_neg c]
     by_cases z:b.2=0
     ·rw[if_pos z,if_pos z]; dsimp only; rw[yh,z8 (decide_eq_false c),za (by rfl),z7]; rfl
     ·have:=Jp b.2
      rw[if_neg z,if_neg z]; dsimp only
      rw[yh,z8 (decide_eq_false c),z8 (by rfl),z6 (jy (1 / b.2) 0 a (by omega) DU (by omega)),z7]; rfl
def rP(X:List Rat)(j:Int):Q:=if j.toNat<X.length then val (nth X j (zb zt))else 0
def eQ(v:zB)(s:zf):AC×Int :=
 if 0≤PL.vu (zM s) 0 v.1 then(([(PL.vu (zM s) 0 v.1,1)],0),0)
 else if PL.vu (zM s) 0 v.2.1<0 then(Q5,5)else(([],rP v.2.2.1 (PL.vu (zM s) 0 v.2.1)),0)
structure kv(v:zB):Prop where
 l1:v.1.length≤100000
 l2:v.2.1.length≤100000
 l3:v.2.2.1.length≤100000
 ok:∀ x∈v.2.2.1,qS 100 x
theorem IA{α:Type}(p:α→Bool)(l:List α):PL.vu p 0 l = -1∨(0≤PL.vu p 0 l∧PL.vu p 0 l<l.length):=by
 have:=PL.z0d p l 0 (Int.le_refl 0)
 omega
theorem N8{v:zB}(h:kv v)(j:Int)(hj:0≤j):(Za v.2.2.1 j).run=some (qR (rP v.2.2.1 j)):=by
 unfold Za rP
 by_cases c:j.toNat<v.2.2.1.length
 ·rw[if_pos c,z8 (by rw[decide_eq_false (by omega),decide_eq_false (by omega)]; rfl),zc ⟨hj,by omega⟩]
  have hm:nth v.2.2.1 j (zb zt)∈v.2.2.1:=by
   unfold nth
   rw[List.getD_eq_getElem?_getD,List.getElem?_eq_getElem c]
   exact List.getElem_mem c
  rw[z6 (ji _ (xM (h.ok _ hm) (by omega))),z7,xk]
 ·have h0:(j6 (0:Int)).run=some (qR (0:Q)):=dQ 0 ⟨by omega,by omega⟩
  rw[if_neg c,za (by rw[decide_eq_false (by omega),decide_eq_true (by omega)]; rfl),z6 h0,z7]
theorem H6{v:zB}(h:kv v)(j:Int):qX (rP v.2.2.1 j)≤100:=by
 unfold rP
 split
 ·rename_i c
  have hm:nth v.2.2.1 j (zb zt)∈v.2.2.1:=by
   unfold nth
   rw[List.getD_eq_getElem?_getD,List.getElem?_eq_getElem c]
   exact List.getElem_mem c
  exact vn (by omega) (h.ok _ hm)
 ·rw[fy]; omega
theorem NY{v:zB}(h:kv v)(s:zf):(Z9 s v).run=some (gC (eQ v s)):=by
 have h1:(qB v.1 s).run=some (PL.vu (zM s) 0 v.1):=Zw v.1 s (by have:=h.l1; omega)
 have h2:(qB v.2.1 s).run=some (PL.vu (zM s) 0 v.2.1):=Zw v.2.1 s (by have:=h.l2; omega)
 have h0:(j6 (0:Int)).run=some (qR (0:Q)):=dQ 0 ⟨by omega,by omega⟩
 unfold Z9 eQ
 rw[z6 h1]
 by_cases c:0≤PL.vu (zM s) 0 v.1
 ·rw[if_pos c,za (decide_eq_true c),z6 Dw,z6 h0,z7]
  rfl
 ·rw[if_neg c,z8 (decide_eq_false c),z6 h2]
  by_cases c2:PL.vu (zM s) 0 v.2.1<0
  ·rw[if_pos c2,za (decide_eq_true c2),z7]; rfl
  ·rw[if_neg c2,z8 (decide_eq_false c2),z6 (N8 h _ (by omega)),z7]
   rfl
def z8n(k:Int):List (AC×Int)→AC×Int
 | [a]=>if a.2≠0 then(Q5,a.2)else(Ym (-1) a.1,0)
 | [a,b]=>if a.2≠0 then(Q5,a.2)else if b.2≠0 then(Q5,b.2)else dP k a.1 b.1
 | _=>(Q5,0)
mutual
def vS(v:zB):Expr→AC×Int
 | .mk k n s l=>if k=1 then(([],val n),0)else if k=2 then eQ v s else z8n k (ofL v l)
def ofL(v:zB):List Expr→List (AC×Int)
 | []=>[]
 | e::r=>vS v e::ofL v r
end
theorem mv(v:zB)(k:Int)(n:Rat)(s:zf)(l:List Expr):vS v (.mk k n s l)=if k=1 then(([],val n),0)else if k=2 then eQ v s else z8n k (ofL v l):=rfl
structure SzA(m:Nat)(r:AC×Int):Prop where
 sz:Vt (202*m) r.1
 len:r.1.1.length≤m
theorem Zv{m:Nat}(hm:1≤m)(x:Int):SzA m (Q5,x):=⟨⟨by rw[fy]; omega,fun t ht=>by cases ht⟩,by show 0≤m; omega⟩
theorem T7(k:Int){a b:AC}{m j:Nat}(ha:Vt (202*m) a)(hb:Vt (202*j) b)(la:a.1.length≤m)(lb:b.1.length≤j):SzA (1+(m+j)) (dP k a b):=by
 have m1:=bQ
 unfold dP
 by_cases k3:k=3
 ·rw[if_pos k3]
  exact⟨vU (Ip ha hb) (by omega),by have:=mc (a.1.length+b.1.length) a.1 b.1; show(ft (a.1.length+b.1.length) a.1 b.1).length≤_; omega⟩
 ·rw[if_neg k3]
  by_cases k4:k=4
  ·rw[if_pos k4]
   have hs:=mw (b := -1) (j:=1) (by omega) hb
   have hl:=bF (-1) b.1
   exact⟨vU (Ip ha hs) (by omega),by have:=mc (a.1.length+(ZM (-1) b.1).length) a.1 (ZM (-1) b.1); show(ft (a.1.length+(ZM (-1) b.1).length) a.1 (ZM (-1) b.1)).length≤_; omega⟩
  ·rw[if_neg k4]
   by_cases k5:k=5
   ·rw[if_pos k5]
    split
    ·exact Zv (by omega) _
    ·split
     ·exact⟨vU (mw hb.1 ha) (by omega),by have:=bF b.2 a.1; show(ZM b.2 a.1).length≤_; omega⟩
     ·exact⟨vU (mw ha.1 hb) (by omega),by have:=bF a.2 b.1; show(ZM a.2 b.1).length≤_; omega⟩
   ·rw[if_neg k5]
    split
    ·exact Zv (by omega) _
    ·split
     ·exact Zv (by omega) _
     ·have:=Jp b.2
      have:=hb.1
      exact⟨vU (mw (j:=202*j) (by omega) ha) (by omega),by have:=bF (1 / b.2) a.1; show(ZM (1 / b.2) a.1).length≤_; omega⟩
theorem E1{v:zB}(hv:kv v)(s:zf):SzA 1 (eQ v s):=by
 unfold eQ
 split
 ·refine⟨⟨by rw[fy]; omega,fun t ht => ?_⟩,Nat.le_refl _⟩
  rw[List.mem_singleton]at ht
  rw[ht]
  show qX (1:Q)≤_
  rw[Hw]; omega
 ·split
  ·exact Zv (by omega) _
  ·exact⟨⟨by have:=H6 hv (PL.vu (zM s) 0 v.2.1); show qX (rP v.2.2.1 (PL.vu (zM s) 0 v.2.1))≤_; omega,fun t ht=>by cases ht⟩,Nat.zero_le _⟩
theorem sO(k:Int)(n:Rat)(s:zf)(a:Expr):xU (.mk k n s [a])=1+xU a:=rfl
theorem iU(k:Int)(n:Rat)(s:zf)(a b:Expr):xU (.mk k n s [a,b])=1+(xU a+xU b):=rfl
theorem HS(e:Expr):1≤xU e:=by cases e; unfold xU; omega
theorem mM{d:Nat}{k:Int}{n:Rat}{s:zf}{l:List Expr}(ho:vf d (.mk k n s l)=true):k=1∨k=2∨(k=7∧∃ a,l=[a]∧vf (d+1) a=true)∨((k=3∨k=4∨k=5∨k=6)∧∃ a b,l=[a,b]∧vf (d+1) a=true∧vf (d+1) b=true):=by
 obtain⟨hk,hl⟩:=Xa ho
 by_cases h1:k=1
 ·exact .inl h1
 ·by_cases h2:k=2
  ·exact .inr (.inl h2)
  ·rcases Ht hk h1 h2 with⟨h7,a,rfl⟩ | ⟨h36,a,b,rfl⟩
   ·have hl:(vf (d+1) a&&yd (d+1) [])=true:=hl
    rw[Bool.and_eq_true]at hl
    exact .inr (.inr (.inl ⟨h7,a,rfl,hl.1⟩))
   ·have hl:(vf (d+1) a&&(vf (d+1) b&&yd (d+1) []))=true:=hl
    rw[Bool.and_eq_true,Bool.and_eq_true]at hl
    exact .inr (.inr (.inr ⟨h36,a,b,rfl,hl.1,hl.2.1⟩))
theorem QB{v:zB}(hv:kv v):∀ (m:Nat) (e:Expr) (d:Nat),xU e≤m→vf d e=true→allOk e→SzA (xU e) (vS v e):=by
 intro m
 induction m with
 | zero=>intro e d hm; have:=HS e; omega
 | succ m ih =>
  intro e d hm ho ha
  have hp:=HS e
  cases e with | mk k n s l =>
  rw[mv]
  rcases mM ho with rfl | rfl | ⟨rfl,a,rfl,V3⟩ | ⟨hk,a,b,rfl,V3,OY⟩
  ·rw[if_pos rfl]
   have:=vn (by omega) ha.1
   exact⟨⟨by show qX (val n)≤_; omega,fun t ht=>by cases ht⟩,Nat.zero_le _⟩
  ·rw[if_neg (by decide),if_pos rfl]
   have:=E1 hv s
   exact⟨vU this.sz (by omega),Nat.le_trans this.len hp⟩
  ·rw[if_neg (by decide),if_neg (by decide)]
   rw[sO]at hm ⊢
   have ka:=ih a (d+1) (by omega) V3 ha.2.1
   show SzA _ (if(vS v a).2≠0 then(Q5,(vS v a).2)else(Ym (-1) (vS v a).1,0))
   split
   ·exact Zv (by omega) _
   ·have m1:=bQ
    have hl:=bF (-1) (vS v a).1.1
    have:=ka.len
    exact⟨vU (mw (b := -1) (j:=1) (by omega) ka.sz) (by omega),by show(ZM (-1) (vS v a).1.1).length≤_; omega⟩
  ·rw[if_neg (by omega),if_neg (by omega)]
   rw[iU]at hm ⊢
   have ka:=ih a (d+1) (by omega) V3 ha.2.1
   have kb:=ih b (d+1) (by omega) OY ha.2.2.1
   show SzA _ (if(vS v a).2≠0 then(Q5,(vS v a).2)else if(vS v b).2≠0 then(Q5,(vS v b).2)else dP k (vS v a).1 (vS v b).1)
   split
   ·exact Zv (by omega) _
   ·split
    ·exact Zv (by omega) _
    ·exact T7 k ka.sz kb.sz ka.len kb.len
theorem wy{a:AC}{x:Int}(h:x≠0):gC (a,x)=(zC,x):=by unfold gC; rw[if_neg h]
theorem uT(a:AC):gC (a,0)=(qZ 0 a,0):=by unfold gC; rw[if_pos rfl]
theorem Ch{v:zB}(hv:kv v)(e:Expr)(d:Nat)(ho:vf d e=true)(ha:allOk e)(hn:xU e≤1000):(J1 e v).run=some (gC (vS v e)):=by
 unfold J1
 refine jG (fun x:Expr×zB=>(∃ d,vf d x.1=true)∧allOk x.1∧xU x.1≤1000∧x.2=v) (fun x=>xU x.1) (fun x=>gC (vS v x.1)) (fun x hx g hg => ?_) (x:=(e,v)) ⟨⟨d,ho⟩,ha,hn,rfl⟩
 obtain⟨e,v'⟩:=x
 obtain⟨⟨d,ho⟩,ha,hn,E2⟩:=hx
 dsimp only at ho ha hn E2 ⊢
 subst E2
 cases e with | mk k n s l =>
 rw[mv]
 unfold Zb
 rw[show Expr.kind (.mk k n s l)=k from rfl,show Expr.kids (.mk k n s l)=l from rfl,show Expr.num (.mk k n s l)=n from rfl,show Expr.name (.mk k n s l)=s from rfl]
 rcases mM ho with rfl | rfl | ⟨rfl,a,rfl,V3⟩ | ⟨hk,a,b,rfl,V3,OY⟩
 ·rw[if_pos rfl,za (by rfl),z6 (ji n (xM ha.1 (by omega))),z7,xk]; rfl
 ·rw[if_neg (by decide),if_pos rfl,z8 (by rfl),za (by rfl),z6 (NY hv s),z7]
 ·rw[sO]at hn
  have hr:=hg (a,v') ⟨⟨_,V3⟩,ha.2.1,by show xU a≤1000; omega,rfl⟩ (by show xU a<xU (.mk 7 n s [a]); rw[sO]; omega)
  have ka:=QB hv (xU a) a (d+1) (Nat.le_refl _) V3 ha.2.1
  dsimp only at hr
  rw[if_neg (by decide),if_neg (by decide),z8 (by rfl),z8 (by rfl),zc ⟨by omega,by simp⟩,show nth [a] (0:Int) (zb .expr)=a from rfl,z6 hr]
  show _=some (gC (if(vS v' a).2≠0 then(Q5,(vS v' a).2)else(Ym (-1) (vS v' a).1,0)))
  generalize vS v' a=A at *
  obtain⟨A1,A2⟩:=A
  have kl:=ka.len
  dsimp only at ka kl ⊢
  by_cases c:A2≠0
  ·rw[if_pos c,wy c,wy c]
   dsimp only
   rw[za (by simpa using c),z7]; rfl
  ·have:A2=0:=by simpa using c
   subst this
   have m1:=bQ
   rw[if_neg (by decide),uT,uT]
   dsimp only
   rw[z8 (by rfl),za (by rfl),z6 JE,z6 (jy (-1) 0 A1 (by omega) (vU ka.sz (by omega)) (by omega)),z7]
 ·rw[iU]at hn
  have hra:=hg (a,v') ⟨⟨_,V3⟩,ha.2.1,by show xU a≤1000; omega,rfl⟩ (by show xU a<xU (.mk k n s [a,b]); rw[iU]; omega)
  have hrb:=hg (b,v') ⟨⟨_,OY⟩,ha.2.2.1,by show xU b≤1000; omega,rfl⟩ (by show xU b<xU (.mk k n s [a,b]); rw[iU]; omega)
  have ka:=QB hv (xU a) a (d+1) (Nat.le_refl _) V3 ha.2.1
  have kb:=QB hv (xU b) b (d+1) (Nat.le_refl _) OY ha.2.2.1
  dsimp only at hra hrb
  have k1:(k==1)=false:=by rw[beq_eq_false_iff_ne]; omega
  have k2:(k==2)=false:=by rw[beq_eq_false_iff_ne]; omega
  have k7:(k==7)=false:=by rw[beq_eq_false_iff_ne]; omega
  rw[if_neg (by omega),if_neg (by omega),z8 k1,z8 k2,zc ⟨by omega,by simp⟩,show nth [a,b] (0:Int) (zb .expr)=a from rfl,show nth [a,b] (1:Int) (zb .expr)=b from rfl,z6 hra]
  show _=some (gC (if(vS v' a).2≠0 then(Q5,(vS v' a).2)else if(vS v' b).2≠0 then(Q5,(vS v' b).2)else dP k (vS v' a).1 (vS v' b).1))
  generalize vS v' a=A at *
  generalize vS v' b=B at *
  obtain⟨A1,A2⟩:=A
  obtain⟨B1,B2⟩:=B
  have kl:=ka.len
  have kl2:=kb.len
  dsimp only at ka kb kl kl2 ⊢
  by_cases c:A2≠0
  ·rw[if_pos c,wy c,wy c]
   dsimp only
   rw[za (by simpa using c),z7]; rfl
  ·have:A2=0:=by simpa using c
   subst this
   rw[if_neg (by decide),uT]
   dsimp only
   rw[z8 (by rfl),z8 k7,zc ⟨by omega,by simp⟩,z6 hrb]
   by_cases c2:B2≠0
   ·rw[if_pos c2,wy c2,wy c2]
    dsimp only
    rw[za (by simpa using c2),z7]; rfl
   ·have:B2=0:=by simpa using c2
    subst this
    rw[if_neg (by decide),uT]
    dsimp only
    rw[z8 (by rfl),z6 (FF k A1 B1 hk (vU ka.sz (by omega)) (vU kb.sz (by omega)) (by omega) (by omega)),z7]
end Go.AM.Lf
