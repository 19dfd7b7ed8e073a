/-
  Plain laws of the lifted program, part 1.
-/
import Derived.Test.YtbafdjlefhlefaaGreatDoorLf1
import Derived.Test.YtbafdjlefhlefaaGreatDoorAmA
import Derived.Test.YtbafdjlefhlefaaGreatDoorAmD
import Derived.Test.YtbafdjlefhlefaaGreatDoorQ0
set_option linter.unusedVariables false
open Go.AM.T (jF mJ od qC qf ub xc y4 yu z6 z7 z8 zD zM za zc ze zr zx zy)
namespace Go.AM.Lf
open PL
def val(a:Rat):Q:=qv a.1 (nv a.2.1) (nv a.2.2.1)
theorem Xx(b:Bool)(n d:Nat):kV b n d=xj (qv b n d):=by
 unfold kV
 by_cases h:n=0∨d=0
 ·rw[if_pos h]
  rcases h with h | h
  ·subst h; rw[Bz,Dj]
  ·subst h; rw[VE,Dj]
 ·rw[if_neg h,z7q _ _ _ (fun z=>h (.inl z)) (fun z=>h (.inr z))]
theorem xl(a:Rat):norm a=xj (val a):=Xx _ _ _
theorem vg(q:Q):val (xj q)=q:=z7u q
theorem qT{q:Q}{k:Nat}(h:xw q≤k):xf k (xj q) :=
 ⟨zq _,zq _,Nat.le_trans (wT q) h,Nat.le_trans (wh q) h⟩
theorem uH{a:Rat}{k:Nat}(hk:1≤k)(h:xf k a):xw (val a)≤k :=
 EH _ _ _ k hk (Nat.le_trans (zU h.1) h.2.2.1) (Nat.le_trans (zU h.2.1) h.2.2.2)
theorem cW(neg:Bool)(n d:Nat)(ln:(zF n).length≤100000000)(ld:(zF d).length≤100000000):(cz neg (zF n) (zF d)).run=some (xj (qv neg n d)):=by
 have:=Vr neg (zF n) (zF d) (zq _) (zq _) ln ld
 rwa [zO,zO,Xx]at this
theorem j3(m n:Nat)(lm:(zF m).length≤1000000000)(ln:(zF n).length≤1000000000):(uK (zF m) (zF n)).run=some (zF (m*n)):=by
 have:=ov (zF m) (zF n) (zq _) (zq _) lm ln
 rwa [zO,zO]at this
theorem GP(m n:Nat)(lm:(zF m).length≤1000000000)(ln:(zF n).length≤1000000000):(mq (zF m) (zF n)).run=some (zF (m+n)):=by
 have:=Xq (zF m) (zF n) (zq _) (zq _) lm ln
 rwa [zO,zO]at this
theorem QD(m n:Nat)(h:n≤m)(lm:(zF m).length≤1000000000)(ln:(zF n).length≤1000000000):(iw (zF m) (zF n)).run=some (zF (m-n),true):=by
 have:=Xt (zF m) (zF n) (zq _) (zq _) lm ln
 rwa [zO,zO,if_neg (by omega)]at this
theorem Hy(m n:Nat)(lm:(zF m).length≤1000000000)(ln:(zF n).length≤1000000000):(fM (zF m) (zF n)).run=some (iD m n):=by
 have:=nA (zF m) (zF n) (zq _) (zq _) lm ln
 rwa [zO,zO]at this
theorem HD(a b:Rat)(ha:xf 10000000 a)(hb:xf 10000000 b):(db a b).run=some (xj (val a+val b)):=by
 unfold db
 rw[z6 (xN a (xR ha (by omega))),z6 (xN b (xR hb (by omega))),xl,xl]
 have la:=uH (by omega) ha
 have lb:=uH (by omega) hb
 rw[S3]
 generalize val a=p at *
 generalize val b=q at *
 simp only[nq,j6,cH]
 have l1:=wT p; have l2:=wh p; have l3:=wT q; have l4:=wh q
 have m1:=xe p.num.natAbs q.den
 have m2:=xe q.num.natAbs p.den
 have m3:=xe p.den q.den
 rw[z6 (j3 _ _ (by omega) (by omega)),z6 (j3 _ _ (by omega) (by omega)),z6 (j3 _ _ (by omega) (by omega))]
 have m4:=pO (p.num.natAbs*q.den) (q.num.natAbs*p.den) 20000000 (by omega) (by omega)
 generalize p.num.natAbs*q.den=x at *
 generalize q.num.natAbs*p.den=y at *
 generalize p.den*q.den=z at *
 by_cases c:decide (p.num<0)=decide (q.num<0)
 ·rw[za (by simp[c]),z6 (GP _ _ (by omega) (by omega)),z6 (cW _ _ _ (by omega) (by omega)),z7,dU,M9,c]
 ·rw[z8 (by simpa using c),z6 (Hy _ _ (by omega) (by omega))]
  by_cases g:y≤x
  ·have e:decide ((0:Int)≤iD x y)=true:=decide_eq_true (by unfold iD; rw[if_neg (by omega)]; split<;>omega)
   have:=hJ (Nat.sub_le x y)
   rw[za e,z6 (QD _ _ g (by omega) (by omega))]
   simp only
   rw[z6 (cW _ _ _ (by omega) (by omega)),z7,dU,U6 _ _ _ _ c g]
  ·have e:decide ((0:Int)≤iD x y)=false:=decide_eq_false (by unfold iD; rw[if_pos (by omega)]; omega)
   have:=hJ (Nat.sub_le y x)
   rw[z8 e,z6 (QD _ _ (by omega) (by omega) (by omega))]
   simp only
   rw[z6 (cW _ _ _ (by omega) (by omega)),z7,dU,U6 _ _ _ _ (fun h=>c h.symm) (by omega:x≤y),Int.add_comm]
def Ld(b:Bool):zf:=if b=true then[45]else[]
def On(s:zf)(n:Nat):zf:=if n=0 then s else
 (kB [48] (n+1-s.length)++s).take ((kB [48] (n+1-s.length)++s).length-n)++[46]++(kB [48] (n+1-s.length)++s).drop ((kB [48] (n+1-s.length)++s).length-n)
theorem QN(k:Nat):(kB [48] k).length=k:=by
 induction k with
 | zero=>rfl
 | succ k ih=>simp[kB,ih]
theorem ng(s:zf)(l h:Nat):gY (l:Int) (h:Int) s=(s.take h).drop l:=by unfold gY; simp
theorem Dd(s:zf)(n:Nat)(hn:n≤1000)(hs:s.length≤1000000000):(iY s (n:Int)).run=some (On s n):=by
 unfold iY On
 by_cases h:n=0
 ·subst h; rw[za (by rfl),z7,if_pos rfl]
 ·rw[z8 (by simp; omega),if_neg h]
  have e1:w6 0 (zt (zt ((n:Int)+1)-(s.length:Int)))=((n+1-s.length:Nat):Int):=by
   rw[i1 n (by omega),zN (by omega) (by omega)]; unfold w6; split<;>omega
  have zfC:(strings_Repeat [48] ((n+1-s.length:Nat):Int)).run=some (kB [48] (n+1-s.length)):=by
   unfold strings_Repeat
   rw[zc ⟨by omega,by omega,by simp; omega⟩,z7,Int.toNat_natCast]
  rw[e1,z6 zfC]
  have hl:=QN (n+1-s.length)
  simp only[cat]
  generalize hR:kB [48] (n+1-s.length)++s=t
  have htl:t.length=(n+1-s.length)+s.length:=by rw[← hR,List.length_append,hl]
  have e2:zt ((t.length:Int)-(n:Int))=((t.length-n:Nat):Int):=by rw[zN (by omega) (by omega)]; omega
  have c0:gY 0 ((t.length-n:Nat):Int) t=t.take (t.length-n):=by have:=ng t 0 (t.length-n); simpa using this
  have c1:gY ((t.length-n:Nat):Int) (t.length:Int) t=t.drop (t.length-n):=by rw[ng,List.take_length]
  simp only[e2,c0,c1]
  rw[zD _ (by omega),od _ (by omega) (by omega) (by omega),zD _ (by simp; omega),od _ (by omega) (by omega) (by omega),zD _ (by simp; omega),z7]
theorem Ch(a:Rat):(rZ a).run=some (Ld a.1):=by
 unfold rZ Ld; rw[yu]; split<;>rfl
theorem me(b:Bool):(fb b).run=some (Ld b):=by
 unfold fb Ld; rw[yu]; split<;>rfl
theorem tA(b:Bool):(Ld b).length≤1:=by unfold Ld; split<;>simp
theorem ic(n k:Nat)(h:(zF n).length≤k):(pr n).length≤18*k+1:=by
 unfold pr
 split
 ·simp
 ·obtain⟨z,hz⟩:=Fc n
  have h1:=Un n k (q8.1 h)
  have h2:=congrArg List.length hz
  rw[List.length_append]at h2
  rw[FE]
  simp only[qP,List.length_map,List.length_reverse]
  omega
theorem Ly(s:zf)(n:Nat):(On s n).length≤s.length+n+2:=by
 unfold On
 split
 ·omega
 ·have:=QN (n+1-s.length)
  simp[this]; omega
theorem Nb(k:Nat)(s:zf):kB [48] k++([48]++s)=kB [48] (k+1)++s:=by
 induction k with
 | zero=>rfl
 | succ k ih=>simp only[kB,List.append_assoc]at ih ⊢; rw[ih]
theorem E6(n:List Int)(hn:zu n)(ln:n.length≤1000000)(least:Nat)(hl:least≤100000):(lj n (least:Int)).run=some (kB [48] (least-(pr (nv n)).length)++pr (nv n)):=by
 have XI:=ic (nv n) 1000000 (Nat.le_trans (zU hn) ln)
 have loop:=ub (r:=kc (least:Int)) (fun s:zf=>s.length≤100000000) (fun s=>least-s.length) (fun s=>kB [48] (least-s.length)++s) ?_ (s:=pr (nv n)) (by omega)
 ·have UP:(sB (least:Int) (pr (nv n))).run=_:=loop
  unfold lj
  rw[z6 (ft n hn ln),z6 UP,z7]
 ·intro s hs
  by_cases h:s.length<least
  ·left
   refine⟨[48]++s,?_,by simp; omega,by simp; omega,?_⟩
   ·unfold kc
    rw[za (by simpa using h),zD _ (by simp; omega),z7]; rfl
   ·rw[show least-s.length=(least-([48]++s).length)+1 by simp; omega,← Nb]
  ·right
   unfold kc
   rw[z8 (by simpa using h),z7,show least-s.length=0 by omega]; rfl
theorem z5q(n:Nat):1≤(pr n).length:=by
 unfold pr
 split
 ·simp
 ·rename_i h
  rw[tr h]; simp
theorem MG(neg:Bool)(n:Nat)(k:Nat)(hk:k≤1000)(hn:(zF n).length≤100000):(nV neg (zF n) (k:Int)).run=some (Ld (neg&&decide (n≠0))++On (pr n) k):=by
 have hd:=E6 (zF n) (zq n) (by omega) (k+1) (by omega)
 rw[zO]at hd
 have XI:=ic n 100000 hn
 have hpp:=z5q n
 have hl:=QN (k+1-(pr n).length)
 have hsg:decide ((0:Int)<((zF n).length:Int))=decide (n≠0):=by
  by_cases c:n=0
  ·subst c; rw[qz]; rfl
  ·have:(zF n).length≠0:=fun h=>c (xH.1 (List.eq_nil_of_length_eq_zero h))
   rw[decide_eq_true (by omega),decide_eq_true c]
 unfold nV
 rw[i1 k (by omega),z6 hd,hsg]
 have hpt:(bif decide ((0:Int)<(k:Int))then cat (cat (gY 0 (zt (((kB [48] (k+1-(pr n).length)++pr n).length:Int)-(k:Int))) (kB [48] (k+1-(pr n).length)++pr n)) [46]) (gY (zt (((kB [48] (k+1-(pr n).length)++pr n).length:Int)-(k:Int))) ((kB [48] (k+1-(pr n).length)++pr n).length:Int) (kB [48] (k+1-(pr n).length)++pr n))else(kB [48] (k+1-(pr n).length)++pr n))=On (pr n) k:=by
  unfold On
  by_cases c:k=0
  ·subst c
   rw[show decide ((0:Int)<((0:Nat):Int))=false from rfl,cond_false,if_pos rfl,show 0+1-(pr n).length=0 by omega]; rfl
  ·rw[decide_eq_true (by omega),cond_true,if_neg c]
   generalize hR:kB [48] (k+1-(pr n).length)++pr n=t
   have htl:t.length=(k+1-(pr n).length)+(pr n).length:=by rw[← hR,List.length_append,hl]
   have e2:zt ((t.length:Int)-(k:Int))=((t.length-k:Nat):Int):=by rw[zN (by omega) (by omega)]; omega
   have c0:gY 0 ((t.length-k:Nat):Int) t=t.take (t.length-k):=by have:=ng t 0 (t.length-k); simpa using this
   have c1:gY ((t.length-k:Nat):Int) (t.length:Int) t=t.drop (t.length-k):=by rw[ng,List.take_length]
   rw[e2,c0,c1]; rfl
 have XX:=Ly (pr n) k
 rw[hpt]
 generalize hR:kB [48] (k+1-(pr n).length)++pr n=t
 have htl:t.length=(k+1-(pr n).length)+(pr n).length:=by rw[← hR,List.length_append,hl]
 have e2:zt ((t.length:Int)-(k:Int))=((t.length-k:Nat):Int):=by rw[zN (by omega) (by omega)]; omega
 rw[zc (fun Hq=>by
  have c0:gY 0 ((t.length-k:Nat):Int) t=t.take (t.length-k):=by have:=ng t 0 (t.length-k); simpa using this
  have c1:gY ((t.length-k:Nat):Int) (t.length:Int) t=t.drop (t.length-k):=by rw[ng,List.take_length]
  rw[e2,c0,c1]
  refine⟨⟨by omega,by omega,by omega⟩,by simp; omega,⟨by omega,by omega,by omega⟩,by simp[cat]; omega⟩)]
 cases neg with
 | true =>
  have Oh:=tA (decide (n≠0))
  rw[zy,z6 (me _),zD _ (by omega),z7,Bool.true_and]; rfl
 | false =>
  have Oh:=tA false
  rw[zr,z6 (me _),zD _ (by omega),z7,Bool.false_and]; rfl
def xO(neg:Bool)(N D:Nat):Nat→Nat→zf×Bool
 | _,0=>([],false)
 | k,f+1=>if N*10 ^ k % D=0 then(Ld neg++On (pr (N*10 ^ k / D)) k,true)else xO neg N D (k+1) f
theorem dN(n:Nat):(((zF n).length:Int)==0)=decide (n=0):=by
 by_cases c:n=0
 ·subst c; rw[qz]; rfl
 ·have:(zF n).length≠0:=fun h=>c (xH.1 (List.eq_nil_of_length_eq_zero h))
  rw[decide_eq_false c]; simpa using this
theorem Z5(a:Rat)(h:xf 1000 a):(mv a).run=some (xO (norm a).1 (nv (norm a).2.1) (nv (norm a).2.2.1) 0 61):=by
 have Bc:=oA (by omega) h
 have hD:=JV a.1 (nv a.2.1) (nv a.2.2.1)
 have S7:=jl a (xR h (by omega))
 unfold mv
 rw[z6 S7]
 change nv (norm a).2.2.1≠0 at hD
 clear S7
 generalize norm a=v at *
 obtain⟨hn,hd,ln,ld⟩:=Bc
 have loop:=ub (r:=y3) (fun s:Int×Rat=>∃ k:Nat,s=((k:Int),v)∧k≤61) (fun s=>61-s.1.toNat)
  (fun s=>if(xO v.1 (nv v.2.1) (nv v.2.2.1) s.1.toNat (61-s.1.toNat)).2=true then .inr ((xO v.1 (nv v.2.1) (nv v.2.2.1) s.1.toNat (61-s.1.toNat)).1,true,v)else .inl v) ?_ (s:=(0,v)) ⟨0,rfl,by omega⟩
 ·have UP:(Xl (0,v)).run=_:=loop
  rw[z6 UP]
  have hex:∀ f k,(xO v.1 (nv v.2.1) (nv v.2.2.1) k f).2=false→(xO v.1 (nv v.2.1) (nv v.2.2.1) k f).1=[]:=by
   intro f
   induction f with
   | zero=>intro k _; rfl
   | succ f ih =>
    intro k hk
    unfold xO at hk ⊢
    split at hk
    ·cases hk
    ·rename_i c; rw[if_neg c]; exact ih _ hk
  have h2:=hex 61 0
  simp only[Int.toNat_zero,Nat.sub_zero]
  generalize xO v.1 (nv v.2.1) (nv v.2.2.1) 0 61=z at *
  obtain⟨z1,z2⟩:=z
  cases z2 with
  | true=>simp
  | false=>simp at h2 ⊢; exact h2
 ·rintro _ ⟨k,rfl,hk⟩
  simp only[Int.toNat_natCast]
  by_cases qp:k<61
  ·have z5J:=Xh k
   have hm:=sn v.2.1 (zF (10 ^ k)) hn (zq _) (by omega) (by omega)
   rw[zO]at hm
   have hml:=Nat.le_trans (I2 (nv v.2.1) (10 ^ k)) (Nat.add_le_add (zU hn) z5J)
   have R8:=gW (zF (nv v.2.1*10 ^ k)) v.2.2.1 (zq _) hd (by omega) (by omega)
   rw[zO,if_neg hD]at R8
   have hq:=j5 (Nat.div_le_self (nv v.2.1*10 ^ k) (nv v.2.2.1))
   have hpr:=lW (zF (nv v.2.1*10 ^ k / nv v.2.2.1)) (zq _) (by omega)
   rw[zO]at hpr
   have XI:=ic (nv v.2.1*10 ^ k / nv v.2.2.1) 2000 (by omega)
   have XX:=Ly (pr (nv v.2.1*10 ^ k / nv v.2.2.1)) k
   have hsl:=tA v.1
   have ef:61-k=(61-(k+1))+1:=by omega
   rw[ef,xO]
   by_cases c:nv v.2.1*10 ^ k % nv v.2.2.1=0
   ·right
    rw[if_pos c,if_pos rfl]
    unfold y3
    rw[za (decide_eq_true (by omega)),z6 (V6 k (by omega)),z6 hm,z6 R8]
    simp only
    rw[za (by rw[dN]; exact decide_eq_true c),z6 (Ch v),z6 hpr,z6 (Dd _ k (by omega) (by omega)),zD _ (by omega),z7]; rfl
   ·left
    rw[if_neg c]
    refine⟨(((k+1:Nat):Int),v),?_,⟨k+1,rfl,by omega⟩,by simp only[Int.toNat_natCast]; omega,by first | trivial | simp only[Int.toNat_natCast]⟩
    unfold y3
    rw[za (decide_eq_true (by omega)),z6 (V6 k (by omega)),z6 hm,z6 R8]
    simp only
    rw[z8 (by rw[dN]; exact decide_eq_false c),z7,i1 k (by omega)]
  ·right
   have:k=61:=by omega
   subst this
   unfold y3
   rw[z8 (decide_eq_false (by omega)),z7]; rfl
theorem sb(a:Rat)(h:xf 1000 a):(cq a).run=some (xO (norm a).1 (nv (norm a).2.1) (nv (norm a).2.2.1) 0 61):=by
 have Bc:=oA (by omega) h
 have hD:=JV a.1 (nv a.2.1) (nv a.2.2.1)
 have hN:=Rq a.1 (nv a.2.1) (nv a.2.2.1)
 have S7:=xN a (xR h (by omega))
 unfold cq
 rw[z6 S7]
 change nv (norm a).2.2.1≠0 at hD
 change (norm a).1=true→nv (norm a).2.1≠0 at hN
 clear S7
 generalize norm a=v at *
 obtain⟨hn,hd,ln,ld⟩:=Bc
 have loop:=ub (r:=jt) (fun s:List Int×Int×Rat=>∃ k:Nat,s=(zF (10 ^ k),(k:Int),v)∧k≤61) (fun s=>61-s.2.1.toNat)
  (fun s=>if(xO v.1 (nv v.2.1) (nv v.2.2.1) s.2.1.toNat (61-s.2.1.toNat)).2=true then .inr ((xO v.1 (nv v.2.1) (nv v.2.2.1) s.2.1.toNat (61-s.2.1.toNat)).1,true,v)else .inl v) ?_ (s:=([1],0,v)) ⟨0,by rw[Nat.pow_zero,lH]; rfl,by omega⟩
 ·have UP:(Zu ([1],0,v)).run=_:=loop
  rw[z6 UP]
  have hex:∀ f k,(xO v.1 (nv v.2.1) (nv v.2.2.1) k f).2=false→(xO v.1 (nv v.2.1) (nv v.2.2.1) k f).1=[]:=by
   intro f
   induction f with
   | zero=>intro k _; rfl
   | succ f ih =>
    intro k hk
    unfold xO at hk ⊢
    split at hk
    ·cases hk
    ·rename_i c; rw[if_neg c]; exact ih _ hk
  have h2:=hex 61 0
  simp only[Int.toNat_zero,Nat.sub_zero]
  generalize xO v.1 (nv v.2.1) (nv v.2.2.1) 0 61=z at *
  obtain⟨z1,z2⟩:=z
  cases z2 with
  | true=>simp
  | false=>simp at h2 ⊢; exact h2
 ·rintro _ ⟨k,rfl,hk⟩
  simp only[Int.toNat_natCast]
  by_cases qp:k<61
  ·have z5J:=Xh k
   have hm:=ov v.2.1 (zF (10 ^ k)) hn (zq _) (by omega) (by omega)
   rw[zO]at hm
   have hml:=Nat.le_trans (I2 (nv v.2.1) (10 ^ k)) (Nat.add_le_add (zU hn) z5J)
   have R8:=yZ (zF (nv v.2.1*10 ^ k)) v.2.2.1 (zq _) hd (by omega) (by omega)
   rw[zO,if_neg hD]at R8
   have hq:=j5 (Nat.div_le_self (nv v.2.1*10 ^ k) (nv v.2.2.1))
   have hpt:=MG v.1 (nv v.2.1*10 ^ k / nv v.2.2.1) k (by omega) (by omega)
   have h10:=ov (zF (10 ^ k)) [10] (zq _) (by intro x hx; simp at hx; omega) (by omega) (by simp)
   rw[zO,show nv [10]=10 from rfl,← Nat.pow_succ]at h10
   have ef:61-k=(61-(k+1))+1:=by omega
   rw[ef,xO]
   by_cases c:nv v.2.1*10 ^ k % nv v.2.2.1=0
   ·right
    have hsg:(v.1&&decide (nv v.2.1*10 ^ k / nv v.2.2.1≠0))=v.1:=by
     cases hv:v.1 with
     | false=>rfl
     | true =>
      have h1:=hN hv
      have h2:nv v.2.1*10 ^ k≠0:=Nat.mul_ne_zero h1 (Nat.pos_iff_ne_zero.1 (Nat.pow_pos (by omega)))
      have h3:nv v.2.1*10 ^ k / nv v.2.2.1≠0:=by
       intro z
       have:=Nat.div_add_mod (nv v.2.1*10 ^ k) (nv v.2.2.1)
       rw[z,c]at this
       exact h2 this.symm
      rw[decide_eq_true h3]; rfl
    rw[hsg]at hpt
    rw[if_pos c,if_pos rfl]
    unfold jt
    rw[za (decide_eq_true (by omega)),z6 hm,z6 R8]
    simp only
    rw[za (by rw[dN]; exact decide_eq_true c),z6 hpt,z7]
   ·left
    rw[if_neg c]
    refine⟨(zF (10 ^ (k+1)),((k+1:Nat):Int),v),?_,⟨k+1,rfl,by omega⟩,by simp only[Int.toNat_natCast]; omega,by first | trivial | simp only[Int.toNat_natCast]⟩
    unfold jt
    rw[za (decide_eq_true (by omega)),z6 hm,z6 R8]
    simp only
    rw[z8 (by rw[dN]; exact decide_eq_false c),z6 h10,z7,i1 k (by omega)]
  ·right
   have:k=61:=by omega
   subst this
   unfold jt
   rw[z8 (decide_eq_false (by omega)),z7]; rfl
def dP(a:Rat):zf:=if nv a.2.2.1=1 then Ld a.1++pr (nv a.2.1)else Ld a.1++pr (nv a.2.1)++([47]++pr (nv a.2.2.1))
theorem Y8(a:Rat)(h:xf 1000 a):(mS a).run=some (dP (norm a)):=by
 have Bc:=oA (by omega) h
 have S7:=jl a (xR h (by omega))
 unfold mS
 rw[z6 S7]
 clear S7
 generalize norm a=v at *
 obtain⟨hn,hd,ln,ld⟩:=Bc
 have Ot:=lW v.2.1 hn (by omega)
 have hpd:=lW v.2.2.1 hd (by omega)
 have Tc:=ic (nv v.2.1) 1000 (Nat.le_trans (zU hn) ln)
 have iL:=ic (nv v.2.2.1) 1000 (Nat.le_trans (zU hd) ld)
 have hsl:=tA v.1
 have h1:(jP 1).run=some (zF 1):=jM 1 (by omega)
 have hc:=lO v.2.2.1 (zF 1) hd (zq _) (by omega) (by rw[lH]; simp)
 rw[zO]at hc
 rw[z6 (Ch v),z6 Ot,zD _ (by omega),z6 h1,z6 hc]
 unfold dP iD
 by_cases c:nv v.2.2.1=1
 ·rw[c,if_pos rfl,if_neg (by omega),if_neg (by omega),z8 (by rfl),z7]; rfl
 ·rw[if_neg c,za (by
   split
   ·rfl
   ·split
    ·rfl
    ·omega),z6 hpd]
  simp only[cat]
  rw[zD _ (by simp; omega),zD _ (by simp; omega),z7]
theorem Kx(a:Rat)(h:xf 1000 a):(oB a).run=some (dP (norm a)):=by
 have Bc:=oA (by omega) h
 have S7:=xN a (xR h (by omega))
 have zfv:∃ D,(norm a).2.2.1=zF D:=by
  unfold norm kV
  split
  ·exact⟨1,lH.symm⟩
  ·exact⟨_,rfl⟩
 unfold oB
 rw[z6 S7]
 clear S7
 generalize norm a=v at *
 obtain⟨hn,hd,ln,ld⟩:=Bc
 obtain⟨D,hD⟩:=zfv
 have Ot:=ft v.2.1 hn (by omega)
 have hpd:=ft v.2.2.1 hd (by omega)
 have Tc:=ic (nv v.2.1) 1000 (Nat.le_trans (zU hn) ln)
 have iL:=ic (nv v.2.2.1) 1000 (Nat.le_trans (zU hd) ld)
 have hsl:=tA v.1
 rw[z6 (me v.1),z6 Ot,zD _ (by omega)]
 rw[zc (fun hz=>⟨by omega,by simp at hz; omega⟩)]
 have zad:(((v.2.2.1.length:Int) != 1)||(nth v.2.2.1 0 (zb (.int .u32)) != 1)) = !decide (nv v.2.2.1=1):=by
  rw[hD,zO]
  by_cases c:D=1
  ·subst c; rw[lH]; rfl
  ·rw[decide_eq_false c]
   by_cases z:D=0
   ·subst z; rw[qz]; rfl
   ·rw[y5 z]
    by_cases y:D / 4294967296=0
    ·rw[y,qz]
     have uj:¬ (((D % 4294967296:Nat):Int)=1):=by omega
     have e9:nth [((D % 4294967296:Nat):Int)] 0 (zb (.int .u32))=((D % 4294967296:Nat):Int):=rfl
     rw[e9]
     generalize ((D % 4294967296:Nat):Int)=w at *
     simp[uj]
    ·rw[y5 y]; simp; left; omega
 rw[zad]
 unfold dP
 by_cases c:nv v.2.2.1=1
 ·rw[if_pos c,decide_eq_true c,z8 (by rfl),z7]; rfl
 ·rw[if_neg c,decide_eq_false c,za (by rfl)]
  simp only[cat]
  rw[zD _ (by simp; omega),z6 hpd,zD _ (by simp; omega),z7]
  simp
end Go.AM.Lf
namespace Go.AM.T
variable {σ ρ α β:Type}
theorem mZ{r:σ→T (σ⊕ρ)}(l:List α)(d:α)(e:β→Int→σ)(I:Nat→β→Prop)(g:β→α→β)(fin:β→ρ)
  (step:∀ (k:Nat) (b:β) (x:α),k<l.length→nth l (k:Int) d=x→x∈l→I k b→(r (e b (k:Int))).run=some (.inl (e (g b x) ((k+1:Nat):Int)))∧I (k+1) (g b x))
  (done:∀ b,I l.length b→(r (e b (l.length:Int))).run=some (.inr (fin b))) {b:β} (h0:I 0 b):(loop r (e b 0)).run=some (fin (l.foldl g b))∧I l.length (l.foldl g b):=by
 have key:∀ (n k:Nat) (b:β),n+k=l.length→I k b→(loop r (e b (k:Int))).run=some (fin ((l.drop k).foldl g b))∧I l.length ((l.drop k).foldl g b):=by
  intro n
  induction n with
  | zero =>
   intro k b hk hb
   have:k=l.length:=by omega
   subst this
   rw[List.drop_length]
   exact⟨qf (done b hb),hb⟩
  | succ n ih =>
   intro k b hk hb
   have qp:k<l.length:=by omega
   have hd:l.drop k=l[k]::l.drop (k+1):=List.drop_eq_getElem_cons qp
   have hn:nth l (k:Int) d=l[k]:=by simp[nth,qp]
   obtain⟨h1,h2⟩:=step k b l[k] qp hn (List.getElem_mem qp) hb
   rw[hd,List.foldl_cons,qC h1]
   exact ih (k+1) _ (by omega) h2
 have:=key l.length 0 b (by omega) h0
 simpa using this
theorem oJ{r:σ→T (σ⊕ρ)}(l:List α)(d:α)(e:β→Int→σ)(I:Nat→β→Prop)(g:β→α→β)(fin:β→ρ)
  (step:∀ (k:Nat) (b:β) (x:α),k<l.length→nth l (k:Int) d=x→x∈l→I k b→(r (e b (k:Int))).run=some (.inl (e (g b x) ((k+1:Nat):Int)))∧I (k+1) (g b x))
  (done:∀ b,I l.length b→(r (e b (l.length:Int))).run=some (.inr (fin b))) {b:β} (h0:I 0 b):(loop r (e b 0)).run=some (fin (l.foldl g b)) :=
 (mZ l d e I g fin step done h0).1
theorem js{r:σ→T (σ⊕ρ)}(l:List α)(d:α)(e:β→Int→σ)(I:Nat→β→Prop)(f:List α→β→ρ)
  (step:∀ (k:Nat) (b:β) (x:α) (xs:List α),k<l.length→nth l (k:Int) d=x→x∈l→l.drop k=x::xs→I k b →
   (∃ b',(r (e b (k:Int))).run=some (.inl (e b' ((k+1:Nat):Int)))∧I (k+1) b'∧f xs b'=f (x::xs) b)∨(r (e b (k:Int))).run=some (.inr (f (x::xs) b)))
  (done:∀ b,I l.length b→(r (e b (l.length:Int))).run=some (.inr (f [] b))) {b:β} (h0:I 0 b):(loop r (e b 0)).run=some (f l b):=by
 have key:∀ (n k:Nat) (b:β),n+k=l.length→I k b→(loop r (e b (k:Int))).run=some (f (l.drop k) b):=by
  intro n
  induction n with
  | zero =>
   intro k b hk hb
   have:k=l.length:=by omega
   subst this
   rw[List.drop_length]
   exact qf (done b hb)
  | succ n ih =>
   intro k b hk hb
   have qp:k<l.length:=by omega
   have hd:l.drop k=l[k]::l.drop (k+1):=List.drop_eq_getElem_cons qp
   have hn:nth l (k:Int) d=l[k]:=by simp[nth,qp]
   rcases step k b l[k] _ qp hn (List.getElem_mem qp) hd hb with⟨b',h1,h2,h3⟩ | h1
   ·rw[hd,qC h1,← h3]
    exact ih (k+1) _ (by omega) h2
   ·rw[hd]; exact qf h1
 have:=key l.length 0 b (by omega) h0
 simpa using this
end Go.AM.T
namespace Go.AM.PL
theorem vr(k n:Nat)(h:k<n)(hn:n≤4000000000000):zt ((k:Int)+1)=((k+1:Nat):Int):=by rw[zN (by omega) (by omega)]; omega
theorem qK{k n:Nat}(h:k<n):decide ((k:Int)<(n:Int))=true:=decide_eq_true (by omega)
theorem xi(n:Nat):decide ((n:Int)<(n:Int))=false:=decide_eq_false (by omega)
theorem zm{k n:Nat}(h:k<n):zi (k:Int) n:=⟨by omega,by omega⟩
theorem W0{α:Type}(f:α→zf)(l:List α)(s:zf):l.foldl (fun s x=>s++f x) s=s++l.flatMap f:=by
 induction l generalizing s with
 | nil=>simp
 | cons x l ih=>rw[List.foldl_cons,ih,List.flatMap_cons,List.append_assoc]
theorem ZT{α β:Type}(f:α→β)(l:List α)(s:List β):l.foldl (fun s x=>s++[f x]) s=s++l.map f:=by
 induction l generalizing s with
 | nil=>simp
 | cons x l ih=>rw[List.foldl_cons,ih,List.map_cons,List.append_assoc]; rfl
theorem uW{α:Type}(f:α→zf)(l:List α)(c:Nat)(h:∀ x∈l,(f x).length≤c):(l.flatMap f).length≤l.length*c:=by
 induction l with
 | nil=>simp
 | cons x l ih =>
  have h1:=h x List.mem_cons_self
  have h2:=ih fun y hy=>h y (List.mem_cons_of_mem _ hy)
  rw[List.flatMap_cons,List.length_append,List.length_cons,Nat.add_mul]; omega
theorem Qu{k n c:Nat}(h:k≤n):k*c≤n*c:=Nat.mul_le_mul_right c h
theorem ct(a b:zf):cat a b=a++b:=rfl
theorem qg(a b:zf):(cat a b).length=a.length+b.length:=by rw[ct,List.length_append]
end Go.AM.PL
namespace Go.AM.PL
theorem OF(n:Nat)(h:n≠0):JG n=Et n:=by
 induction n using Nat.strongRecOn with
 | _ n ih =>
  rw[JG,tr h]
  split
  ·rename_i c
   rw[show n / 10=0 by omega,sL]
   unfold MN
   rw[show n % 10=n by omega]; rfl
  ·rename_i c
   rw[ih (n / 10) (by omega) (by omega)]; rfl
theorem LR(n:Nat):JG n=pr n:=by
 unfold pr
 by_cases h:n=0
 ·subst h; rw[JG]; rfl
 ·rw[if_neg h,OF n h]
theorem my{α:Type}(text:α→T zf)(l:List α)(d:α)(f:α→zf)(c:Nat)(word:zf){r:zf×Int→T ((zf×Int)⊕zf)}
  (hr:∀ w i,r (w,i)=.ite (decide (i<(l.length:Int))) (.zd (zi i l.length)<|T.bind (text (nth l i d)) fun r =>
    .zd (((List.length ([32]:zf))+(List.length r))≤(4611686018427387904:Nat)) <|
    .zd (((List.length w)+(List.length (cat ([32]:zf) r)))≤(4611686018427387904:Nat)) <|
    .ret (.inl ((cat w (cat ([32]:zf) r)),(zt (i+(1:Int))))))
   (.ret (.inr w)))
  (ht:∀ x∈l,(text x).run=some (f x)) (hb:∀ x∈l,(f x).length≤c) (hl:l.length≤4000000000000) (hc:word.length+l.length*(c+1)≤1000000000000000000) :
  (T.loop r (word,0)).run=some (word++l.flatMap (fun x=>32::f x)):=by
 rw[← W0]
 refine T.oJ l d (fun b i=>(b,i)) (fun k b=>b.length≤word.length+k*(c+1)) (fun s x=>s++(32::f x)) id (fun k b x hk hx hm hI => ?_) (fun b _ => ?_) (b:=word) (by simp)
 ·have h1:=hb x hm
  have h2:=Qu (c:=c+1) (show k+1≤l.length from hk)
  rw[Nat.add_mul,Nat.one_mul]at h2
  refine⟨?_,by simp only[List.length_append,List.length_cons]; rw[Nat.add_mul,Nat.one_mul]; omega⟩
  rw[hr,za (qK hk),zc (zm hk),hx,z6 (ht x hm),zD _ (by simp; omega),zD _ (by simp[ct]; omega),z7,vr k _ hk hl]; rfl
 ·rw[hr,z8 (xi _),z7]; rfl
end Go.AM.PL
namespace Go.AM.Lf
open PL
def SL(n:Int):Prop := -9223372036854775808≤n∧n≤9223372036854775807
theorem OY(n:Int)(h:SL n):(strconv_Itoa n).run=some (pw n):=by
 unfold strconv_Itoa
 unfold SL at h
 rw[zc h,z7]
theorem z8P{n:Nat}(h:n<18446744073709551616):(zF n).length≤2:=q8.2 (by show n<4294967296 ^ 2; omega)
theorem D7{n:Nat}(h:n<18446744073709551616):(pr n).length≤37:=ic n 2 (z8P h)
theorem Cg(n:Int)(h:SL n):(pw n).length≤38:=by
 obtain⟨h1,h2⟩:=h
 unfold pw
 split
 ·rw[LR]
  have:=D7 (n:=n.natAbs) (by omega)
  simp; omega
 ·rw[LR]
  have:=D7 (n:=n.toNat) (by omega)
  omega
theorem ZO(a:Rat)(h:xf 1000 a):(dP (norm a)).length≤40000:=by
 have Bc:=oA (by omega) h
 generalize norm a=v at *
 have h1:=ic (nv v.2.1) 1000 (Nat.le_trans (zU Bc.1) Bc.2.2.1)
 have h2:=ic (nv v.2.2.1) 1000 (Nat.le_trans (zU Bc.2.1) Bc.2.2.2)
 have h3:=tA v.1
 unfold dP
 split<;>simp<;>omega
end Go.AM.Lf
namespace Go.AM.PL
theorem z4k(p q:Q)(h:q≠0):p / q=qv (decide (p.num<0) != decide (q.num<0)) (p.num.natAbs*q.den) (p.den*q.num.natAbs):=by
 have hn:q.num≠0:=fun z=>h (Rat.num_eq_zero.1 z)
 have h1:(q⁻¹).num.natAbs=q.den:=by
  rw[Rat.num_inv,Int.natAbs_mul,Int.natAbs_sign_of_ne_zero hn,Nat.one_mul,Int.natAbs_natCast]
 have h2:(q⁻¹).den=q.num.natAbs:=by rw[Rat.den_inv,if_neg hn]
 have h3:decide ((q⁻¹).num<0)=decide (q.num<0):=by
  refine decide_eq_decide.2 ?_
  rw[Rat.num_inv]
  have hd:=q.den_pos
  rcases Int.lt_trichotomy q.num 0 with c | c | c
  ·rw[Int.sign_eq_neg_one_of_neg c]; omega
  ·exact absurd c hn
  ·rw[Int.sign_eq_one_of_pos c]; omega
 rw[Rat.div_def,Ih,h1,h2,h3,dU]
theorem z4A(b:Bool)(n:Nat):qv b n 1=((Vn b n:Int):Q):=by
 rw[dU,Rat.mkRat_eq_div]
 have:((1:Nat):Q)=1:=rfl
 rw[this]
 grind
end Go.AM.PL
namespace Go.AM.Lf
open PL
theorem HQ(a b:Rat)(ha:xf 10000000 a)(hb:xf 10000000 b)(h:val b≠0):(fH a b).run=some (xj (val a / val b),true):=by
 unfold fH
 rw[z6 (xN a (xR ha (by omega))),z6 (xN b (xR hb (by omega))),xl,xl]
 have la:=uH (by omega) ha
 have lb:=uH (by omega) hb
 rw[z4k _ _ h]
 generalize val a=p at *
 generalize val b=q at *
 simp only[nq,j6,cH]
 have l1:=wT p; have l2:=wh p; have l3:=wT q; have l4:=wh q
 have m1:=xe p.num.natAbs q.den
 have m2:=xe p.den q.num.natAbs
 have hz:(((zF q.num.natAbs).length:Int)==0)=false:=by rw[dN]; exact decide_eq_false fun z=>h (Rat.num_eq_zero.1 (Int.natAbs_eq_zero.1 z))
 rw[z8 hz,z6 (j3 _ _ (by omega) (by omega)),z6 (j3 _ _ (by omega) (by omega)),z6 (cW _ _ _ (by omega) (by omega)),z7]
 rfl
theorem gT(n:Int)(h:SL n):(wa n).run=some (xj (n:Q)):=by
 obtain⟨h1,h2⟩:=h
 unfold wa
 have hN:(bif (decide (n<(0:Int)))then(zw ((0:Int)-(zw n)))else(zw n))=((n.natAbs:Nat):Int):=by
  by_cases c:n<0
  ·rw[decide_eq_true c,cond_true,Qq n,Qq]; omega
  ·rw[decide_eq_false c,cond_false,qw (by omega) (by omega)]; omega
 have hl:(zF n.natAbs).length≤2:=q8.2 (by show n.natAbs<4294967296 ^ 2; omega)
 have ho:=Vr (decide (n<0)) (zF n.natAbs) [1] (zq _) UH (by omega) (by simp)
 rw[zO,show nv [1]=1 from rfl,Xx,z4A]at ho
 have hs:Vn (decide (n<0)) n.natAbs=n:=by
  unfold Vn
  by_cases c:n<0
  ·rw[decide_eq_true c,if_pos rfl]; omega
  ·rw[decide_eq_false c,if_neg (by simp)]; omega
 rw[hs]at ho
 rw[hN,z6 (lK n.natAbs (by omega)),z6 ho,z7]
theorem Df(a b:List Int)(ha:zu a)(hb:zu b)(la:a.length≤1000000000)(lb:b.length≤1000000000):(tk a b).run=some (if nv a<nv b then([],false)else(zF (nv a-nv b),true)):=by
 have qa:=zU ha
 have qb:=zU hb
 unfold tk
 rw[z6 (lO a b ha hb la lb)]
 by_cases hlt0:nv a<nv b
 ·rw[if_pos hlt0]; simp[iD,hlt0]
 rw[if_neg hlt0,z8 (by unfold iD; rw[if_neg hlt0]; split<;>simp),z6 (xW a ha (by omega)),z6 (xW b hb (by omega))]
 generalize nv a=A at *
 generalize nv b=B at *
 obtain⟨x,Uj⟩:∃ x,zF A=x:=⟨_,rfl⟩
 obtain⟨y,T1⟩:∃ y,zF B=y:=⟨_,rfl⟩
 have lx:zu x:=Uj▸zq _
 have ly:zu y:=T1▸zq _
 have vx:nv x=A:=by rw[← Uj,zO]
 have vy:nv y=B:=by rw[← T1,zO]
 have le2:x.length≤1000000000:=by rw[← Uj]; omega
 rw[Uj,T1]
 simp only[Int.toNat_natCast,List.length_replicate]
 have loop:∃ r:List Int,(Jd y x (x.length:Int) (0,0,List.replicate x.length 0)).run=some r∧zu r∧r.length=x.length∧nv r+nv y=nv x:=by
  refine T.xh (fun s:Int×Int×List Int=>∃ (c i:Nat),s.1=(c:Int)∧s.2.1=(i:Int)∧c≤1∧i≤x.length∧zu s.2.2∧s.2.2.length=x.length∧nv (s.2.2.take i)+nv (y.take i)=nv (x.take i)+c*4294967296 ^ i)
   (fun s=>x.length-s.2.1.toNat) _ ?_ ⟨0,0,rfl,rfl,by omega,by omega,xr _,by simp,by simp⟩
  rintro⟨_,_,xs⟩ ⟨c,i,rfl,rfl,hc,hi,hl,hn,hv⟩
  simp only at hl hn hv ⊢
  by_cases qp:i<x.length
  ·left
   have hx:=wk lx i
   have hy:=wk ly i
   have hw:(bif decide ((i:Int)<(y.length:Int))then nth y (i:Int) 0 else 0)=(lm y i:Int):=by
    by_cases q:i<y.length
    ·rw[qK q,cond_true,wC ly]
    ·rw[decide_eq_false (by omega),cond_false,Cj (a:=y) (by omega)]; rfl
   refine⟨(((if lm x i<lm y i+c then 1 else 0:Nat):Int),((i+1:Nat):Int),xs.set i (((lm x i+4294967296*(if lm x i<lm y i+c then 1 else 0))-(lm y i+c):Nat):Int)),?_,⟨_,i+1,rfl,rfl,by split<;>omega,by omega,cw hl _ (by omega) (by split<;>omega),by simpa using hn,?_⟩,by simp; omega⟩
   ·unfold oP
    dsimp only
    rw[za (qK qp),zc (zm qp),zc (fun h=>zm (by have:=of_decide_eq_true h; omega)),xy,wC lx,hw,z6 (Wq hx hy hc)]
    dsimp only
    rw[zc (by rw[hn]; exact zm qp),Int.toNat_natCast,Nat.zero_add,i1 i (by omega),jF _ rfl (by omega)]
    simp only[List.length_set]
    rw[ze _ rfl rfl rfl,zM,z7]
   ·simp only
    rw[uf _ (by omega),q9,q9,Nat.pow_succ,Int.toNat_natCast]
    exact Vp hv hc hx hy
  ·right
   have ZP:i=x.length:=by omega
   subst ZP
   refine⟨xs,?_,hl,hn,?_⟩
   ·unfold oP
    simp
   ·rw[List.take_length,← hn,List.take_length,hn]at hv
    have h1:=jN y (min x.length y.length) (by omega)
    have Hj:=yd lx
    have HN:nv (y.take x.length)=nv y:=by
     by_cases q:y.length≤x.length
     ·exact qN q
     ·rw[show min x.length y.length=x.length by omega]at h1
      rcases Nat.eq_zero_or_pos (nv (y.drop x.length))with z | z
      ·rw[z]at h1; omega
      ·have:=Nat.mul_le_mul_left (4294967296 ^ x.length) z
       omega
    have Vt:=yd hl
    rw[hn]at Vt
    rw[HN]at hv
    have:c=0:=by
     rcases Nat.eq_zero_or_pos c with h | h
     ·exact h
     ·have:c=1:=by omega
      subst this; omega
    subst this; omega
 obtain⟨xs,hr,hl,hn,hv⟩:=loop
 rw[T.run_mk _ (by omega) (by omega) (by omega) (by omega),ze _ rfl rfl rfl,zM,z6 hr,zM]
 simp only[List.drop_zero,Nat.zero_add,List.take_length]
 rw[z6 (xW xs hl (by omega)),z7,show nv xs=A-B by omega]
theorem nN(neg:Bool)(n d:Nat)(ln:(zF n).length≤100000000)(ld:(zF d).length≤100000000):(np neg (zF n) (zF d)).run=some (xj (qv neg n d)):=by
 have:=UT neg (zF n) (zF d) (zq _) (zq _) ln ld
 rwa [zO,zO,Xx]at this
theorem dh(m n:Nat)(lm:(zF m).length≤1000000000)(ln:(zF n).length≤1000000000):(gR (zF m) (zF n)).run=some (zF (m*n)):=by
 have:=sn (zF m) (zF n) (zq _) (zq _) lm ln
 rwa [zO,zO]at this
theorem CZ(m n:Nat)(lm:(zF m).length≤1000000000)(ln:(zF n).length≤1000000000):(QH (zF m) (zF n)).run=some (zF (m+n)):=by
 have:=C4 (zF m) (zF n) (zq _) (zq _) lm ln
 rwa [zO,zO]at this
theorem Vo(m n:Nat)(lm:(zF m).length≤1000000000)(ln:(zF n).length≤1000000000):(tk (zF m) (zF n)).run=some (if m<n then([],false)else(zF (m-n),true)):=by
 have:=Df (zF m) (zF n) (zq _) (zq _) lm ln
 rwa [zO,zO]at this
theorem Dh(a b:Rat)(ha:xf 10000000 a)(hb:xf 10000000 b):(lJ a b).run=some (xj (val a+val b)):=by
 unfold lJ
 rw[z6 (jl a (xR ha (by omega))),z6 (jl b (xR hb (by omega))),xl,xl]
 have la:=uH (by omega) ha
 have lb:=uH (by omega) hb
 rw[S3]
 generalize val a=p at *
 generalize val b=q at *
 simp only[nq,j6,cH]
 have l1:=wT p; have l2:=wh p; have l3:=wT q; have l4:=wh q
 have m1:=xe p.num.natAbs q.den
 have m2:=xe q.num.natAbs p.den
 have m3:=xe p.den q.den
 rw[z6 (dh _ _ (by omega) (by omega)),z6 (dh _ _ (by omega) (by omega)),z6 (dh _ _ (by omega) (by omega))]
 have m4:=pO (p.num.natAbs*q.den) (q.num.natAbs*p.den) 20000000 (by omega) (by omega)
 generalize p.num.natAbs*q.den=x at *
 generalize q.num.natAbs*p.den=y at *
 generalize p.den*q.den=z at *
 by_cases c:decide (p.num<0)=decide (q.num<0)
 ·rw[za (by simp[c]),z6 (CZ _ _ (by omega) (by omega)),z6 (nN _ _ _ (by omega) (by omega)),z7,dU,M9,c]
 ·rw[z8 (by simpa using c),z6 (Vo _ _ (by omega) (by omega))]
  by_cases g:y≤x
  ·have:=hJ (Nat.sub_le x y)
   rw[if_neg (by omega:¬ x<y)]
   dsimp only
   rw[zy,z6 (nN _ _ _ (by omega) (by omega)),z7,dU,U6 _ _ _ _ c g]
  ·have:=hJ (Nat.sub_le y x)
   rw[if_pos (by omega:x<y)]
   dsimp only
   rw[zr,z6 (Vo _ _ (by omega) (by omega)),if_neg (by omega:¬ y<x)]
   dsimp only
   rw[z6 (nN _ _ _ (by omega) (by omega)),z7,dU,U6 _ _ _ _ (fun h=>c h.symm) (by omega:x≤y),Int.add_comm]
theorem dM(n:Int)(h:SL n):(uY n).run=some (xj (n:Q)):=by
 obtain⟨h1,h2⟩:=h
 unfold uY
 have hN:(bif (decide (n<(0:Int)))then(zw ((0:Int)-(zw n)))else(zw n))=((n.natAbs:Nat):Int):=by
  by_cases c:n<0
  ·rw[decide_eq_true c,cond_true,Qq n,Qq]; omega
  ·rw[decide_eq_false c,cond_false,qw (by omega) (by omega)]; omega
 have mh:(jP 1).run=some (zF 1):=jM 1 (by omega)
 rw[hN,z6 (jM n.natAbs (by omega)),z6 mh,z7]
 have e:xj (n:Q)=(decide (n<0),zF n.natAbs,zF 1,()):=by
  unfold xj
  rw[Rat.num_intCast,Rat.den_intCast]
 rw[e]
theorem nJ(s:zf):zH s s=true:=by rw[wm]; simp
theorem BX{l:List Int}(h:wf (.sl u32) l):zu l:=fun x hx=>by
 obtain⟨p,q⟩:=h x hx
 have p':(0:Int)≤x:=p
 have q':x≤4294967295:=q
 exact⟨p',by omega⟩
theorem ED{a:Rat}(h:wf zJ a):zu a.2.1∧zu a.2.2.1:=⟨BX h.2.1,BX h.2.2.1⟩
end Go.AM.Lf
namespace Go.AM.PL
def isD(b:UInt8):Bool:=decide (48≤b.toNat∧b.toNat≤57)
def ZB(s:zf):Bool:=s.all isD
def dT(s:zf):Nat:=s.foldl (fun n b=>n*10+(b.toNat-48)) 0
theorem Oa(s:zf)(n:Nat):s.foldl (fun n b=>n*10+(b.toNat-48)) n=n*10 ^ s.length+dT s:=by
 unfold dT
 induction s generalizing n with
 | nil=>simp
 | cons b s ih =>
  rw[List.foldl_cons,List.foldl_cons,ih,ih (0*10+(b.toNat-48)),List.length_cons,Nat.pow_succ]
  grind
theorem Jk(s t:zf):dT (s++t)=dT s*10 ^ t.length+dT t:=by
 have:=Oa t (dT s)
 unfold dT at this ⊢
 rw[List.foldl_append,this]
theorem MI(s:zf)(b:UInt8):dT (s++[b])=dT s*10+(b.toNat-48):=by
 unfold dT; rw[List.foldl_append]; rfl
theorem z0G{b:UInt8}:isD b=true↔48≤b.toNat∧b.toNat≤57:=by unfold isD; simp
theorem KH(s t:zf):ZB (s++t)=(ZB s&&ZB t):=by unfold ZB; rw[List.all_append]
theorem Nc(b:UInt8)(t:zf):ZB (b::t)=(isD b&&ZB t):=rfl
theorem oK{s:zf}{k:Nat}(h:k<s.length):wB s (k:Int)=((s[k]).toNat:Int):=by
 unfold wB; simp[h]
end Go.AM.PL

namespace Go.AM.PL
def zfn(t:zf):Option (Nat×Nat) :=
 if t.takeWhile isD=[]then none else match t.dropWhile isD with
 | []=>some (dT (t.takeWhile isD),1)
 | c::q=>if q=[]∨ZB q=false then none else if c=46 then some (dT (t.takeWhile isD)*10 ^ q.length+dT q,10 ^ q.length)
  else if c=47 then(if dT q=0 then none else some (dT (t.takeWhile isD),dT q))else none
end Go.AM.PL
namespace Go.AM.Lf
open PL
def eC:Rat:=(false,[],[],())
def z14(s:zf):Option (Nat×Nat):=zfn (z0t s [45])
theorem Kr(a b:List Int)(la:a.length≤1000000000)(e:a=b):(j0 a b).run=some true:=by
 subst e
 have key:(cO a a 0).run=some (.inl ()):=by
  have:=T.js (r:=wH a a) a (zb (.int .u32)) (fun(_:Unit) i=>i) (fun _ _=>True) (fun _ _=>(.inl ():Unit⊕Bool)) (fun k b x xs hk hx hm hd hI => ?_) (fun b _ => ?_) (b:=()) trivial
  ·exact this
  ·left
   refine⟨(),?_,trivial,rfl⟩
   unfold wH
   dsimp only
   rw[za (qK hk),zc (zm hk),zc (zm hk),z8 (by simp),z7,vr k _ hk (by omega)]
  ·unfold wH
   dsimp only
   rw[z8 (xi _),z7]
 unfold j0
 rw[z8 (by simp),z6 key]; rfl
theorem CB(a b:Rat)(ha:xf 100000 a)(hb:xf 100000 b)(h:val a=val b):(uD a b).run=some true:=by
 unfold uD
 have l:=uH (by omega) ha
 have h1:=wT (val a); have h2:=wh (val a)
 rw[z6 (xN a (xR ha (by omega))),z6 (xN b (xR hb (by omega))),xl,xl,← h,za (by simp),j6,cH,z6 (Kr _ _ (by omega) rfl),zy,z6 (Kr _ _ (by omega) rfl),z7]
theorem OU:xf 100000 eC:=⟨y8,y8,by simp[eC],by simp[eC]⟩
end Go.AM.Lf
namespace Go.AM.PL
theorem z1J(n:Nat):isD (MN n)=true∧(MN n).toNat-48=n % 10:=by
 have h:(MN n).toNat=48+n % 10:=by unfold MN; rw[UInt8.toNat_ofNat']; omega
 exact⟨z0G.2 (by omega),by omega⟩
theorem z01(n:Nat):ZB (Et n)=true∧dT (Et n)=n:=by
 induction n using Nat.strongRecOn with
 | _ n ih =>
  by_cases h:n=0
  ·subst h; rw[sL]; exact⟨rfl,rfl⟩
  ·obtain⟨h1,h2⟩:=ih (n / 10) (by omega)
   obtain⟨h3,h4⟩:=z1J n
   rw[tr h]
   refine⟨by rw[KH,h1,Nc,h3]; rfl,?_⟩
   rw[MI,h2,h4]; omega
theorem z0y(n:Nat):ZB (pr n)=true∧dT (pr n)=n:=by
 unfold pr
 split
 ·rename_i h; subst h; exact⟨by decide,by decide⟩
 ·exact z01 n
theorem Rm(k:Nat):ZB (kB [48] k)=true∧dT (kB [48] k)=0:=by
 induction k with
 | zero=>exact⟨rfl,rfl⟩
 | succ k ih =>
  show ZB ([48]++kB [48] k)=true∧dT ([48]++kB [48] k)=0
  rw[KH,Jk,ih.1,ih.2]
  exact⟨by decide,by show 0*_+0=0; omega⟩
end Go.AM.PL
namespace Go.AM.Lf
open PL
theorem Nu(s:zf)(k:Nat)(hk:k≠0)(hs:ZB s=true):∃ w p,On s k=w++46::p∧ZB w=true∧w≠[]∧ZB p=true∧p.length=k∧dT w*10 ^ k+dT p=dT s∧w.length+k=max s.length (k+1):=by
 unfold On
 rw[if_neg hk]
 have hr:=Rm (k+1-s.length)
 have hl:=QN (k+1-s.length)
 have hd:ZB (kB [48] (k+1-s.length)++s)=true:=by rw[KH,hr.1,hs]; rfl
 have hv:dT (kB [48] (k+1-s.length)++s)=dT s:=by rw[Jk,hr.2]; omega
 have hlen:(kB [48] (k+1-s.length)++s).length=(k+1-s.length)+s.length:=by rw[List.length_append,hl]
 generalize kB [48] (k+1-s.length)++s=t at *
 refine⟨t.take (t.length-k),t.drop (t.length-k),by simp,?_,?_,?_,by simp; omega,?_,by simp; omega⟩
 ·exact List.all_eq_true.2 fun x hx=>List.all_eq_true.1 hd x (List.mem_of_mem_take hx)
 ·intro z
  have:=congrArg List.length z
  simp at this; omega
 ·exact List.all_eq_true.2 fun x hx=>List.all_eq_true.1 hd x (List.mem_of_mem_drop hx)
 ·have:=Jk (t.take (t.length-k)) (t.drop (t.length-k))
  rw[List.take_append_drop,hv,List.length_drop,show t.length-(t.length-k)=k by omega]at this
  exact this.symm
theorem Gi(b:Bool)(N D:Nat)(hD:D≠0):∀ (f k:Nat) (s:zf),xO b N D k f=(s,true)→∃ j,k≤j∧j<k+f∧N*10 ^ j % D=0∧s=Ld b++On (pr (N*10 ^ j / D)) j
 | 0,k,s,h=>by unfold xO at h; cases h
 | f+1,k,s,h=>by
  unfold xO at h
  split at h
  ·rename_i c; cases h; exact⟨k,Nat.le_refl _,by omega,c,rfl⟩
  ·obtain⟨j,h1,h2,h3,h4⟩:=Gi b N D hD f (k+1) s h
   exact⟨j,by omega,by omega,h3,h4⟩
def vL{α:Type}(p:α→Bool)(i:Int):List α→Int
 | [] => -1
 | x::r=>if p x=true then i else vL p (i+1) r
theorem OD{α:Type}(p:α→Bool)(l:List α)(i:Int)(h:0≤i):vL p i l = -1∨(i≤vL p i l∧vL p i l<i+l.length):=by
 induction l generalizing i with
 | nil=>exact .inl rfl
 | cons x r ih =>
  simp only[vL,List.length_cons]
  split
  ·right; omega
  ·rcases ih (i+1) (by omega)with h | h
   ·exact .inl h
   ·right; omega
end Go.AM.Lf
namespace Go.AM.T
theorem zk{α β:Type}(a:β)(t:T α):(zd (a=a) t).run=t.run:=zc rfl t
end Go.AM.T
namespace Go.AM.Lf
open PL
abbrev zel:Ty:=.cons .str (.cons zJ .nil)
abbrev ItT:=den zel
theorem Wx{α:Type}{l:List α}{P:α→Prop}(h:∀ k (hk:k<l.length),P l[k]):∀ x∈l,P x:=by
 intro x hx
 obtain⟨k,hk,rfl⟩:=List.getElem_of_mem hx
 exact h k hk
theorem qZ{α:Type}{l:List α}{k:Nat}(h:k<l.length)(d:α):nth l (k:Int) d=l[k]:=by simp[nth,h]
theorem WI(s:zf):(bytesOf s).length=s.length:=by unfold bytesOf; simp
theorem C1(s t:zf):bytesOf (s++t)=bytesOf s++bytesOf t:=by unfold bytesOf; simp
theorem BP(s:zf):qP (bytesOf s)=s:=by
 unfold qP bytesOf
 rw[List.map_map]
 conv=>rhs; rw[← List.map_id s]
 refine List.map_congr_left fun b _ => ?_
 simp[byteOf]
theorem Y2(s:zf):∀ n∈bytesOf s,(0:Int)≤n∧n<256:=by
 intro n hn
 unfold bytesOf at hn
 obtain⟨b,_,rfl⟩:=List.mem_map.1 hn
 have:=b.toNat_lt
 omega
theorem vX(s b:zf)(h:b.length+s.length≤140737488355328):(qk s () (bytesOf b)).run=some ((s.length:Int),(),bytesOf (b++s)):=by
 unfold qk lZ
 simp only[T.bind]
 rw[ze _ rfl rfl rfl,zM,xc _ rfl rfl rfl (by simp only[WI]; omega),ze _ (by simp) rfl (by simp),zc (by simp),z7,C1]
theorem Yi(b:zf)(h:b.length≤140737488355328):(nS () (bytesOf b)).run=some (b,()):=by
 unfold nS z1a
 rw[zc ⟨Y2 b,by rw[WI]; exact h⟩,z7,BP]
def zcp(x:ItT):zf:=x.1++[32]++dP (norm x.2.1)++[10]
theorem KX(a:List Rat)(hl:a.length≤1000000000000):(uC a).run=some a:=by
 unfold uC
 rw[zc]
 ·cases a with
  | nil=>simp
  | cons x a=>simp only[List.length_cons]at hl; simp(disch:=omega)
 ·rintro rfl r hr
  first
  | simpa[T.leads]using hr
  | (obtain⟨_,_,hr⟩:=hr; simpa[T.leads]using hr)
theorem Vq(f:Form)(hl:f.2.2.2.1.length≤1000000000):(gF f).run=some (f.2.2.2.1.map (·.1)):=by
 have key:=T.mZ (r:=kI f.2.2.2.1 (f.2.2.2.1.length:Int)) f.2.2.2.1 (zb q7) (fun(b:List zf) i=>(i,b)) (fun k b=>b.length=k) (fun b x=>b++[x.1]) id (fun k b x hk hx hm hI => ?_) (fun b hI => ?_) (b:=[]) rfl
 ·obtain⟨k1,k2⟩:=key
  rw[ZT,List.nil_append]at k1 k2
  have k1:(se f.2.2.2.1 (f.2.2.2.1.length:Int) ((0:Int),([]:List zf))).run=some (f.2.2.2.1.map (·.1)):=k1
  unfold gF
  rw[ze _ rfl rfl rfl,T.zk,z6 k1,T.zk,z7,Nat.zero_add,List.take_length,List.drop_zero]
 ·refine⟨?_,by simp; omega⟩
  unfold kI
  dsimp only
  rw[za (qK hk),zc (zm hk),hx,xc _ rfl rfl rfl (by omega),ze _ (by simp) rfl (by simp),zc (by simp),z7,vr k _ hk (by omega)]
 ·unfold kI
  dsimp only
  rw[z8 (xi _),ze _ rfl rfl rfl,T.zk,z7]; rfl
theorem z1b(f:Form)(ps:List Rat)(hl:f.2.2.2.1.length≤1000000000)(hp:f.2.1.length≤1000000000)(Bo:ps.length≤1000000000) :
  (pW f ps).run=some (f.2.2.2.1.map (·.1),f.2.1.map (·.1),ps,()):=by
 have key:=T.mZ (r:=dG f.2.1 (f.2.1.length:Int)) f.2.1 (zb zX) (fun(b:List zf) i=>(i,(([]:List Rat),()),(f.2.2.2.1.map (·.1),ps,()),[],[],b)) (fun k b=>b.length=k) (fun b x=>b++[x.1])
  (fun b=>((([]:List Rat),()),(f.2.2.2.1.map (·.1),ps,()),[],[],b)) (fun k b x hk hx hm hI => ?_) (fun b hI => ?_) (b:=[]) rfl
 ·obtain⟨k1,k2⟩:=key
  rw[ZT,List.nil_append]at k1 k2
  have k1:(Vs f.2.1 (f.2.1.length:Int) ((0:Int),((([]:List Rat),()),((f.2.2.2.1.map (·.1),(ps,())),(([]:List zf),(([]:List zf),([]:List zf))))))).run=some ((([]:List Rat),()),(f.2.2.2.1.map (·.1),ps,()),[],[],f.2.1.map (·.1)):=k1
  unfold pW
  rw[z6 (Vq f hl),z6 (KX ps (by omega)),ze _ rfl rfl rfl,ze _ rfl rfl rfl,ze _ rfl rfl rfl,T.zk,T.zk,T.zk,z6 k1,T.zk,z7,Nat.zero_add,List.take_length,List.drop_zero]
 ·refine⟨?_,by simp; omega⟩
  unfold dG
  dsimp only
  rw[za (qK hk),zc (zm hk),hx,xc _ rfl rfl rfl (by omega),ze _ rfl rfl rfl,ze _ rfl rfl rfl,ze _ (by simp) rfl (by simp),T.zk,T.zk,zc (by simp),z7,vr k _ hk (by omega)]
 ·unfold dG
  dsimp only
  rw[z8 (xi _),ze _ rfl rfl rfl,ze _ rfl rfl rfl,ze _ rfl rfl rfl,T.zk,T.zk,T.zk,z7]
def P7(b:UInt8):Bool:=decide (97≤(b.toNat:Int))&&decide ((b.toNat:Int)≤122)
def ZE(b:UInt8):Bool:=P7 b||((decide (48≤(b.toNat:Int))&&decide ((b.toNat:Int)≤57))||((b.toNat:Int)==95))
def xY(s:zf):Bool:=match s with | []=>false | b::_=>decide (s.length≤24)&&(P7 b&&s.all ZE)
theorem Vh(b:UInt8):(eS (b.toNat:Int)).run=some (ZE b):=by
 have h1:(uv (b.toNat:Int)).run=some (P7 b):=rfl
 have h2:(o5 (b.toNat:Int)).run=some (decide (48≤(b.toNat:Int))&&decide ((b.toNat:Int)≤57)):=rfl
 unfold eS ZE
 rw[z6 h1]
 cases P7 b with
 | true=>rw[zy,z7]; rfl
 | false =>
  rw[zr,z6 h2]
  cases(decide (48≤(b.toNat:Int))&&decide ((b.toNat:Int)≤57))with
  | true=>rw[zy,z7]; rfl
  | false=>rw[zr,z7]; rfl
theorem cV(s:zf):(uI s).run=some (xY s):=by
 unfold uI
 cases s with
 | nil=>rfl
 | cons b r =>
  have e0:zH (b::r) []=false:=by rw[wm]; simp
  rw[e0]
  by_cases c:24<(b::r).length
  ·have:(T.ite false (.ret true) (.ite (decide ((24:Int)<((b::r).length:Int))) (.ret true) (.zd (zi (0:Int) (List.length (b::r)))<|T.bind (uv (wB (b::r) (0:Int))) fun r=>.ret (!r))):T Bool).run=some true:=by
    rw[zr,za (decide_eq_true (by omega)),z7]
   rw[z6 this,zy,z7]
   unfold xY
   rw[decide_eq_false (by omega)]; rfl
  ·have hb:wB (b::r) (0:Int)=(b.toNat:Int):=oK (s:=b::r) (k:=0) (by simp)
   have h1:(uv (b.toNat:Int)).run=some (P7 b):=rfl
   have:(T.ite false (.ret true) (.ite (decide ((24:Int)<((b::r).length:Int))) (.ret true) (.zd (zi (0:Int) (List.length (b::r)))<|T.bind (uv (wB (b::r) (0:Int))) fun r=>.ret (!r))):T Bool).run=some (!P7 b):=by
    rw[zr,z8 (decide_eq_false (by omega)),zc (by refine⟨by omega,?_⟩; simp only[List.length_cons]; omega),hb,z6 h1,z7]
   rw[z6 this]
   unfold xY
   dsimp only
   rw[decide_eq_true (by omega),Bool.true_and]
   cases P7 b with
   | false=>rw[za (by rfl),z7]; rfl
   | true =>
    rw[z8 (by rfl),Bool.true_and]
    have key:(QP (b::r) ((b::r).length:Int) 0).run=some (if(b::r).all ZE=true then .inl ()else .inr false):=by
     refine T.js (r:=kS (b::r) ((b::r).length:Int)) (b::r) (0:UInt8) (fun(_:Unit) i=>i) (fun _ _=>True) (fun l _=>(if l.all ZE=true then .inl ()else .inr false:Unit⊕Bool)) (fun k _ x xs hk hx hm hd hI => ?_) (fun _ _ => ?_) (b:=()) trivial
     ·have hxk:(b::r)[k]=x:=by rw[← hx]; unfold nth; rw[Int.toNat_natCast,List.getD_eq_getElem?_getD,List.getElem?_eq_getElem hk]; rfl
      have DG:wB (b::r) (k:Int)=(x.toNat:Int):=by rw[oK hk,hxk]
      cases Qp:ZE x with
      | true =>
       left
       refine⟨(),?_,trivial,?_⟩
       ·unfold kS
        rw[za (qK hk),zc (zm hk),DG,z6 (Vh x),Qp,z8 (by rfl),z7,vr k _ hk (by omega)]
       ·rw[List.all_cons,Qp,Bool.true_and]
      | false =>
       right
       unfold kS
       rw[za (qK hk),zc (zm hk),DG,z6 (Vh x),Qp,za (by rfl),z7,List.all_cons,Qp]
       rfl
     ·unfold kS
      rw[z8 (xi _),z7]; rfl
    rw[z6 key]
    cases h:(b::r).all ZE with
    | true=>rfl
    | false=>rfl
theorem Z1(l:List zf)(v:zf)(hl:l.length≤1000000000):(qx l v).run=some (PL.vL (fun s=>zH v s) 0 l):=by
 have key:(vN l v (l.length:Int) 0).run=some (if PL.vL (fun s=>zH v s) 0 l = -1 then .inl ()else .inr (PL.vL (fun s=>zH v s) 0 l)):=by
  refine PL.yS (r:=qt l v (l.length:Int)) l (zb .str) _ (fun i h0 h hp => ?_) (fun i h0 h hp => ?_) (fun i h => ?_)
  ·unfold qt
   rw[za (decide_eq_true h),zc ⟨h0,h⟩,za hp,z7]
  ·unfold qt
   rw[za (decide_eq_true h),zc ⟨h0,h⟩,z8 hp,z7,zN (by omega) (by omega)]
  ·unfold qt
   rw[z8 (decide_eq_false h),z7]
 unfold qx
 rw[z6 key]
 split<;>rename_i h
 ·rw[h]; rfl
 ·rfl
theorem na{α:Type}(f:α→Nat)(l:List α):∀ x∈l,f x≤c7 f l:=by
 induction l with
 | nil=>intro x hx; cases hx
 | cons y l ih =>
  intro x hx
  show _≤f y+c7 f l
  rcases List.mem_cons.1 hx with rfl | hx
  ·omega
  ·have:=ih x hx; omega
theorem iB{α:Type}(f:α→Nat)(l:List α)(h:∀ x,1≤f x):l.length≤c7 f l:=by
 induction l with
 | nil=>simp
 | cons y l ih =>
  show _≤f y+c7 f l
  have:=h y
  simp; omega
mutual
/-- What an expression weighs. -/
def szE:Expr→Nat
 | .mk _ n s l=>3+s.length+8*n.2.1.length+8*n.2.2.1.length+szEs l
def szEs:List Expr→Nat
 | []=>0
 | e::r=>szE e+szEs r
end
mutual
theorem J5:∀ (e:Expr) (left:Int),0≤wtE e left→wtE e left=left-szE e
 | .mk _ n s l,left,h=>by
  have:=IZ l (left-3-s.length-8*n.2.1.length-8*n.2.2.1.length)
  simp only[wtE,szE]at h ⊢
  rw[this h]; omega
theorem IZ:∀ (l:List Expr) (left:Int),0≤wtEs l left→wtEs l left=left-szEs l
 | [],left,h=>by simp[wtEs,szEs]
 | e::r,left,h=>by
  have h1:=J5 e left
  have h2:=IZ r (wtE e left)
  have h3:=(HL r (wtE e left)).1
  by_cases c:0≤left
  ·simp only[wtEs,szEs,if_pos c]at h ⊢
   rw[h2 h,h1 (by omega)]; omega
  ·simp only[wtEs,if_neg c]at h; omega
end
structure FB(f:Form):Prop where
 l1:f.1.length≤1048576
 l2:f.2.1.length≤1048576
 l3:f.2.2.1.length≤1048576
 l4:f.2.2.2.1.length≤1048576
 l5:f.2.2.2.2.1.length≤1048576
 l6:f.2.2.2.2.2.1.length≤1048576
 s:∀ x∈f.1,x.1.length≤1048576
 p:∀ x∈f.2.1,x.1.length≤1048576∧x.2.1.2.1.length≤1048576∧x.2.1.2.2.1.length≤1048576∧zu x.2.1.2.1∧zu x.2.1.2.2.1
 g:∀ x∈f.2.2.1,x.1.length≤1048576∧x.2.1.length≤1048576
 d:∀ x∈f.2.2.2.1,x.1.length≤1048576
 r:∀ x∈f.2.2.2.2.1,x.1.length≤1048576∧x.2.2.1.length≤1048576∧bkE x.2.2.2.1≤1048576∧bkE x.2.2.2.2.1≤1048576
 c:∀ x∈f.2.2.2.2.2.1,x.1.length≤1048576∧bkE x.2.2.2.1≤1048576∧bkE x.2.2.2.2.1≤1048576
theorem z4c{f:Form}(hw:wf zG f)(hb:bk zG f≤1048576):FB f:=by
 have e1:bk zG f=(c7 (bk zW) f.1+1)+((c7 (bk zX) f.2.1+1)+((c7 (bk qu) f.2.2.1+1)+((c7 (bk q7) f.2.2.2.1+1)+((c7 (bk zo) f.2.2.2.2.1+1)+((c7 (bk zn) f.2.2.2.2.2.1+1)+1))))):=rfl
 have b1:∀ x,bk zW x=(x.1.length+1)+(1+1):=fun _=>rfl
 have b2:∀ x,bk zX x=(x.1.length+1)+((1+((c7 (bk u32) x.2.1.2.1+1)+((c7 (bk u32) x.2.1.2.2.1+1)+1)))+1):=fun _=>rfl
 have b3:∀ x,bk qu x=(x.1.length+1)+((x.2.1.length+1)+1):=fun _=>rfl
 have b4:∀ x,bk q7 x=(x.1.length+1)+(1+(1+(1+1))):=fun _=>rfl
 have b5:∀ x,bk zo x=(x.1.length+1)+(1+((x.2.2.1.length+1)+(bkE x.2.2.2.1+(bkE x.2.2.2.2.1+1)))):=fun _=>rfl
 have b6:∀ x,bk zn x=(x.1.length+1)+(1+(1+(bkE x.2.2.2.1+(bkE x.2.2.2.2.1+1)))):=fun _=>rfl
 have u1:∀ l:List Int,c7 (bk u32) l=l.length:=fun l=>Bv l
 have k1:=iB (bk zW) f.1 (fun x=>by rw[b1]; omega)
 have k2:=iB (bk zX) f.2.1 (fun x=>by rw[b2]; omega)
 have k3:=iB (bk qu) f.2.2.1 (fun x=>by rw[b3]; omega)
 have k4:=iB (bk q7) f.2.2.2.1 (fun x=>by rw[b4]; omega)
 have k5:=iB (bk zo) f.2.2.2.2.1 (fun x=>by rw[b5]; omega)
 have k6:=iB (bk zn) f.2.2.2.2.2.1 (fun x=>by rw[b6]; omega)
 rw[e1]at hb
 refine⟨by omega,by omega,by omega,by omega,by omega,by omega,fun x hx => ?_,fun x hx => ?_,fun x hx => ?_,fun x hx => ?_,fun x hx => ?_,fun x hx => ?_⟩
 ·have:=na (bk zW) f.1 x hx; rw[b1]at this; omega
 ·have:=na (bk zX) f.2.1 x hx
  rw[b2,u1,u1]at this
  have hwx:wf zX x:=hw.2.1 x hx
  obtain⟨r1,r2⟩:=ED hwx.2.1
  exact⟨by omega,by omega,by omega,r1,r2⟩
 ·have:=na (bk qu) f.2.2.1 x hx; rw[b3]at this; exact⟨by omega,by omega⟩
 ·have:=na (bk q7) f.2.2.2.1 x hx; rw[b4]at this; omega
 ·have:=na (bk zo) f.2.2.2.2.1 x hx; rw[b5]at this; exact⟨by omega,by omega,by omega,by omega⟩
 ·have:=na (bk zn) f.2.2.2.2.2.1 x hx; rw[b6]at this; exact⟨by omega,by omega,by omega⟩
theorem cy{r:Int×Int→T ((Int×Int)⊕Int)}(len:Nat)(hlen:len≤1048576)(P:Nat→Prop)
  (h1:∀ (n:Int) (k:Nat),k<len→0≤n→n≤600→∃ n',(r (n,(k:Int))).run=some (.inl (n',((k+1:Nat):Int))) ∧ -10000000000≤n'∧n'≤n∧(0≤n'→P k))
  (h2:∀ (n:Int) (k:Nat),¬ (k<len∧0≤n)→(r (n,(k:Int))).run=some (.inr n)) (n:Int) (hn : -10000000000≤n) (KT:n≤600) :
  ∃ n',(T.loop r (n,0)).run=some n' ∧ -10000000000≤n'∧n'≤n∧(0≤n'→∀ k<len,P k):=by
 refine T.xh (fun s:Int×Int=>∃ k:Nat,s.2=(k:Int)∧k≤len ∧ -10000000000≤s.1∧s.1≤n∧(0≤s.1→∀ j<k,P j)) (fun s=>len-s.2.toNat) _ (fun s hs => ?_) ⟨0,rfl,by omega,hn,by omega,fun _ j hj=>by omega⟩
 obtain⟨m,i⟩:=s
 obtain⟨k,rfl,hk,hm,NZ,hP⟩:=hs
 by_cases c:k<len∧0≤m
 ·left
  obtain⟨n',g1,g2,g3,g4⟩:=h1 m k c.1 c.2 (by dsimp only at NZ; omega)
  refine⟨_,g1,⟨k+1,rfl,c.1,g2,by dsimp only at NZ ⊢; omega,fun h0 j hj => ?_⟩,by dsimp only; omega⟩
  rcases Nat.lt_succ_iff_lt_or_eq.1 hj with hj | rfl
  ·exact hP c.2 j hj
  ·exact g4 h0
 ·right
  refine⟨m,h2 m k c,hm,NZ,fun h0 j hj=>hP h0 j ?_⟩
  have:k=len:=by
   by_cases q:k<len
   ·exact absurd ⟨q,h0⟩ c
   ·omega
  omega
theorem YX{k len:Nat}{n:Int}(h:¬ (k<len∧0≤n)):(decide ((k:Int)<(len:Int))&&decide (0≤n))=false:=by
 by_cases q:k<len
 ·have:¬ 0≤n:=fun z=>h ⟨q,z⟩
  rw[decide_eq_false this,Bool.and_false]
 ·rw[decide_eq_false (by omega),Bool.false_and]
theorem Gz{k len:Nat}{n:Int}(h:k<len)(h0:0≤n):(decide ((k:Int)<(len:Int))&&decide (0≤n))=true:=by
 rw[decide_eq_true (by omega),decide_eq_true h0]; rfl
def gJ(l:List Int):Bool:=zF (nv l)==l
def dR(a:Rat):Bool:=gJ a.2.1&&(gJ a.2.2.1&&(!(nv a.2.2.1==0)&&(!(a.1&&(nv a.2.1==0))&&(Nat.gcd (nv a.2.1) (nv a.2.2.1)==1))))
theorem ju{l:List Int}(h:zu l):gJ l=true↔WE l:=by
 unfold gJ
 constructor
 ·intro e
  have e:zF (nv l)=l:=by simpa using e
  rw[← e]; exact sO _
 ·intro ht
  rw[ZG h ht]; simp
theorem JM(l:List Int)(h:zu l)(hl:l.length≤1000000000):(ig l).run=some (gJ l):=by
 unfold ig
 cases l with
 | nil =>
  rw[zc (fun h=>by simp at h),z7]
  have e:gJ []=true:=by unfold gJ; rw[show nv []=0 from rfl,qz]; rfl
  rw[e]; rfl
 | cons x r =>
  obtain⟨n,hn⟩:∃ n,(x::r).length=n+1:=⟨r.length,rfl⟩
  have ew:zt (((x::r).length:Int)-1)=(n:Int):=by rw[hn,zN (by omega) (by omega)]; omega
  have FY:n<(x::r).length:=by omega
  have e0:(((x::r).length:Int)==0)=false:=by rw[hn]; simp; omega
  have hg:(x::r).getLast? = some ((x::r)[n]):=by
   rw[List.getLast?_eq_getElem?,hn,Nat.add_sub_cancel,List.getElem?_eq_getElem FY]
  rw[zc (fun _=>by rw[ew]; exact zm FY),z7,ew,qZ FY,e0,Bool.false_or]
  congr 1
  cases hq:((x::r)[n] != 0)with
  | true =>
   symm
   rw[ju h]
   intro y hy
   rw[hg]at hy
   cases hy
   simpa using hq
  | false =>
   symm
   rw[Bool.eq_false_iff]
   intro ht
   have:=(ju h).1 ht _ hg
   simp at hq
   exact this hq
theorem oH(a:Rat)(h:xf 100000000 a):(rf a).run=some (dR a):=by
 obtain⟨h1,h2,h3,h4⟩:=h
 unfold rf dR
 have n1:=JM a.2.1 h1 (by omega)
 have n2:=JM a.2.2.1 h2 (by omega)
 have hzD:gJ a.2.2.1=true→(((a.2.2.1.length:Int))==0)=(nv a.2.2.1==0):=fun ht=>by
  have e:zF (nv a.2.2.1)=a.2.2.1:=ZG h2 ((ju h2).1 ht)
  conv=>lhs; rw[← e]
  rw[dN]
  cases q:decide (nv a.2.2.1=0)<;>simp_all
 have hzN:gJ a.2.1=true→(((a.2.1.length:Int))==0)=(nv a.2.1==0):=fun ht=>by
  have e:zF (nv a.2.1)=a.2.1:=ZG h1 ((ju h1).1 ht)
  conv=>lhs; rw[← e]
  rw[dN]
  cases q:decide (nv a.2.1=0)<;>simp_all
 have hg:=V3 a.2.1 a.2.2.1 h1 h2 (by omega) (by omega)
 have mh:(jP 1).run=some (zF 1):=jM 1 (by omega)
 have hc:∀ g:Nat,(zF g).length≤100000001→(iS (zF g) (zF 1)).run=some (iD g 1):=fun g hl=>by
  have:=lO (zF g) (zF 1) (zq _) (zq _) (by omega) (by rw[lH]; simp)
  rwa [zO,zO]at this
 have head:∀ b:Bool,((T.bind (ig a.2.1) fun r=>.ite (!r) (.ret true) (T.bind (ig a.2.2.1) fun r1=>.ite (!r1) (.ret true) (.ite ((a.2.2.1.length:Int)==(0:Int)) (.ret true) (.ite a.1 (.ret ((a.2.1.length:Int)==(0:Int))) (.ret false))))):T Bool).run =
   some (!(gJ a.2.1&&(gJ a.2.2.1&&(!(nv a.2.2.1==0) && !(a.1&&(nv a.2.1==0)))))):=fun _=>by
  rw[z6 n1]
  cases t1:gJ a.2.1 with
  | false=>rfl
  | true =>
   rw[z8 (by rfl),z6 n2]
   cases t2:gJ a.2.2.1 with
   | false=>rfl
   | true =>
    rw[z8 (by rfl),hzD t2]
    cases nv a.2.2.1==0 with
    | true=>rfl
    | false =>
     rw[zr,hzN t1]
     cases a.1 with
     | true=>rw[zy,z7]; cases nv a.2.1==0<;>rfl
     | false=>rfl
 rw[z6 (head true)]
 cases hb:(gJ a.2.1&&(gJ a.2.2.1&&(!(nv a.2.2.1==0) && !(a.1&&(nv a.2.1==0)))))with
 | false =>
  rw[za (by rfl),z7]
  congr 1
  generalize (Nat.gcd (nv a.2.1) (nv a.2.2.1)==1)=g
  revert hb
  cases gJ a.2.1<;>cases gJ a.2.2.1<;>cases(nv a.2.2.1==0)<;>cases a.1<;>cases(nv a.2.1==0)<;>simp
 | true =>
  rw[z8 (by rfl),z6 hg,z6 mh]
  have hle:(zF (Nat.gcd (nv a.2.1) (nv a.2.2.1))).length≤100000001:=by
   simp only[Bool.and_eq_true,Bool.not_eq_true',beq_eq_false_iff_ne]at hb
   have hd:0<nv a.2.2.1:=Nat.pos_of_ne_zero hb.2.2.1
   have m1:=hJ (Nat.gcd_le_right (nv a.2.1) hd)
   have m2:=zU h2
   omega
  rw[z6 (hc _ hle),z7]
  congr 1
  have hgc:(iD (Nat.gcd (nv a.2.1) (nv a.2.2.1)) 1==0)=(Nat.gcd (nv a.2.1) (nv a.2.2.1)==1):=by
   generalize Nat.gcd (nv a.2.1) (nv a.2.2.1)=g
   unfold iD
   by_cases q1:g<1
   ·rw[if_pos q1]; simp; omega
   ·by_cases q2:1<g
    ·rw[if_neg q1,if_pos q2]; simp; omega
    ·have:g=1:=by omega
     subst this; rfl
  rw[hgc]
  revert hb
  generalize (Nat.gcd (nv a.2.1) (nv a.2.2.1)==1)=g
  cases gJ a.2.1<;>cases gJ a.2.2.1<;>cases(nv a.2.2.1==0)<;>cases a.1<;>cases(nv a.2.1==0)<;>simp
def wW(a:Rat):Bool:=decide (16<(norm a).2.1.length)||decide (16<(norm a).2.2.1.length)
theorem yw(a:Rat)(h:xf 100000000 a):(uS a).run=some (wW a):=by
 unfold uS wW
 rw[z6 (jl a h),z7]
 congr 2
 ·exact decide_eq_decide.2 (by omega)
 ·exact decide_eq_decide.2 (by omega)
def cr(a:Rat):Bool:=dR a&&(!a.1&&(!wW a&&(xO (norm a).1 (nv (norm a).2.1) (nv (norm a).2.2.1) 0 61).2))
def ud(a:Rat):Bool := !a.1&&(a.2.1.isEmpty&&(a.2.2.1.isEmpty||dR a))
def Va(k:Int):Int:=if k=1∨k=2 then 0 else if k=7 then 1 else if k=3∨k=4∨k=5∨k=6 then 2 else -1
def dq(e:Expr):Bool:=((e.kids.length:Int)==Va e.kind)&&(if e.kind=1 then cr e.num&&zH e.name []else if e.kind=2 then ud e.num&&xY e.name else ud e.num&&zH e.name [])
mutual
def wv:Expr→Nat
 | .mk _ _ _ l=>1+vY l
def vY:List Expr→Nat
 | []=>0
 | e::r=>wv e+vY r
end
mutual
def vf(deep:Nat):Expr→Bool
 | .mk k n s l=>decide (deep<32)&&(dq (.mk k n s l)&&kQ (deep+1) l)
def kQ(deep:Nat):List Expr→Bool
 | []=>true
 | e::r=>vf deep e&&kQ deep r
end
theorem XR:∀ (l:List Expr),l.length≤vY l
 | []=>Nat.le_refl _
 | .mk _ _ _ k::r=>by
  have:=XR r
  unfold vY wv
  simp only[List.length_cons]; omega
theorem Qm{e:Expr}:∀ {l:List Expr},e∈l→wv e≤vY l
 | [],h=>by cases h
 | x::r,h=>by
  unfold vY
  rcases List.mem_cons.1 h with rfl | h
  ·omega
  ·have:=Qm h; omega
mutual
/-- How many nodes are looked at. -/
def Y5(deep:Nat):Expr→Nat
 | .mk k n s l=>1+if(decide (deep<32)&&dq (.mk k n s l))=true then nc (deep+1) l else 0
def nc(deep:Nat):List Expr→Nat
 | []=>0
 | e::r=>Y5 deep e+if vf deep e=true then nc deep r else 0
end
mutual
theorem LU:∀ (e:Expr) (deep:Nat),Y5 deep e≤wv e
 | .mk k n s l,deep=>by
  have:=KL l (deep+1)
  unfold Y5 wv
  split<;>omega
theorem KL:∀ (l:List Expr) (deep:Nat),nc deep l≤vY l
 | [],_=>Nat.le_refl _
 | e::r,deep=>by
  have h1:=LU e deep
  have h2:=KL r deep
  unfold nc vY
  split<;>omega
end
mutual
theorem HR:∀ (e:Expr),3*wv e≤szE e
 | .mk k n s l=>by
  have:=IG l
  unfold wv szE
  omega
theorem IG:∀ (l:List Expr),3*vY l≤szEs l
 | []=>Nat.le_refl _
 | e::r=>by
  have h1:=HR e
  have h2:=IG r
  unfold vY szEs
  omega
end
def VG(a:Rat):Prop:=xf 100 a
mutual
def allOk:Expr→Prop
 | .mk _ n _ l=>VG n∧allOks l
def allOks:List Expr→Prop
 | []=>True
 | e::r=>allOk e∧allOks r
end
theorem Q1{l:List Expr}(h:allOks l):∀ e∈l,allOk e:=by
 induction l with
 | nil=>intro e he; cases he
 | cons x r ih =>
  intro e he
  rcases List.mem_cons.1 he with rfl | he
  ·exact h.1
  ·exact ih h.2 e he
mutual
theorem rj:∀ (e:Expr),wfE e→szE e≤800→allOk e
 | .mk k n s l,hw,hs=>by
  unfold szE at hs
  have hw':wf X1 (Expr.mk k n s l).MB:=(Lo _).2 hw
  obtain⟨_,hn,_,hl,_⟩:=hw'
  obtain⟨r1,r2⟩:=ED hn
  have r1:zu n.2.1:=r1
  have r2:zu n.2.2.1:=r2
  refine⟨⟨r1,r2,by omega,by omega⟩,Ga l (fun e he=>hl e he) (by omega)⟩
theorem Ga:∀ (l:List Expr),(∀ e∈l,wfE e)→szEs l≤800→allOks l
 | [],_,_=>trivial
 | e::r,hw,hs=>by
  unfold szEs at hs
  exact⟨rj e (hw e List.mem_cons_self) (by omega),Ga r (fun x hx=>hw x (List.mem_cons_of_mem _ hx)) (by omega)⟩
end
theorem E8(a:Rat)(h:VG a):(dK a).run=some (ud a):=by
 unfold dK ud
 have hr:=oH a (xR h (by omega))
 have e:∀ l:List Int,(((l.length:Int))==0)=l.isEmpty:=fun l=>by cases l<;>simp; omega
 rw[e,e]
 cases a.1 with
 | true=>rfl
 | false =>
  rw[za (by rfl)]
  cases a.2.1.isEmpty with
  | false=>rfl
  | true =>
   rw[zy]
   cases a.2.2.1.isEmpty with
   | true=>rfl
   | false=>rw[zr,z6 hr,z7]; rfl
theorem NV(a:Rat)(h:VG a):(oR a).run=some (cr a):=by
 unfold oR cr
 have hr:=oH a (xR h (by omega))
 have hl:=yw a (xR h (by omega))
 have he:=Z5 a (xR h (by omega))
 have head:((T.bind (rf a) fun r=>.ite (!r) (.ret true) (.ite a.1 (.ret true) (T.bind (uS a) fun r1=>.ret r1))):T Bool).run=some (!(dR a&&(!a.1 && !wW a))):=by
  rw[z6 hr]
  cases dR a with
  | false=>rfl
  | true =>
   rw[z8 (by rfl)]
   cases a.1 with
   | true=>rfl
   | false=>rw[zr,z6 hl,z7]; simp
 rw[z6 head]
 cases q:(dR a&&(!a.1 && !wW a))with
 | false =>
  rw[za (by rfl),z7]
  congr 1
  revert q
  cases dR a<;>cases a.1<;>cases wW a<;>simp
 | true =>
  rw[z8 (by rfl),z6 he]
  generalize xO (norm a).1 (nv (norm a).2.1) (nv (norm a).2.2.1) 0 61=x
  obtain⟨x1,x2⟩:=x
  dsimp only
  rw[z7]
  congr 1
  revert q
  cases dR a<;>cases a.1<;>cases wW a<;>simp
theorem S0(k:Int):(sV k).run=some (Va k):=by
 unfold sV Va
 by_cases h1:k=1
 ·subst h1; rfl
 by_cases h2:k=2
 ·subst h2; rfl
 by_cases h7:k=7
 ·subst h7; rfl
 by_cases h3:k=3
 ·subst h3; rfl
 by_cases h4:k=4
 ·subst h4; rfl
 by_cases h5:k=5
 ·subst h5; rfl
 by_cases h6:k=6
 ·subst h6; rfl
 ·simp[h1,h2,h3,h4,h5,h6,h7]
theorem K6(e:Expr)(h:VG e.num):(gy e).run=some (dq e):=by
 unfold gy dq
 rw[z6 (S0 _)]
 have hN:=NV e.num h
 have h0:=E8 e.num h
 have hn:=cV e.name
 cases q:((e.kids.length:Int)==Va e.kind)with
 | false=>rw[za (by rw[bne,q]; rfl),z7]; rfl
 | true =>
  rw[z8 (by rw[bne,q]; rfl),Bool.true_and]
  by_cases h1:e.kind=1
  ·rw[if_pos h1,za (by rw[h1]; rfl),z6 hN]
   cases cr e.num with
   | true=>rw[zy,z7]; rfl
   | false=>rw[zr,z7]; rfl
  ·rw[if_neg h1,z8 (by simpa using h1)]
   by_cases h2:e.kind=2
   ·rw[if_pos h2,za (by rw[h2]; rfl),z6 h0]
    cases ud e.num with
    | true=>rw[zy,z6 hn,z7]; rfl
    | false=>rw[zr,z7]; rfl
   ·rw[if_neg h2,z8 (by simpa using h2),z6 h0]
    cases ud e.num with
    | true=>rw[zy,z7]; rfl
    | false=>rw[zr,z7]; rfl
theorem z3e(e:Expr)(deep left:Nat)(h:allOk e)(hl:wv e≤left)(iL:left≤100000)(hd:deep≤32):(jK e (deep:Int) (left:Int)).run=some (vf deep e,((left-Y5 deep e:Nat):Int)):=by
 unfold jK
 refine y4 (fun x:Expr×Int×Int=>allOk x.1∧0≤x.2.1∧x.2.1≤32∧(wv x.1:Int)≤x.2.2∧x.2.2≤100000) (fun x=>wv x.1) (fun x=>(vf x.2.1.toNat x.1,((x.2.2.toNat-Y5 x.2.1.toNat x.1:Nat):Int))) (fun x hx g hg => ?_) (x:=(e,(deep:Int),(left:Int))) ⟨h,by dsimp only; omega,by dsimp only; omega,by dsimp only; omega,by dsimp only; omega⟩
 obtain⟨e,d,lf⟩:=x
 obtain⟨ha,DX,ME,hn,hlf⟩:=hx
 dsimp only at ha DX ME hn hlf
 obtain⟨D,rfl⟩:∃ D:Nat,d=(D:Int):=⟨d.toNat,by omega⟩
 obtain⟨L,rfl⟩:∃ L:Nat,lf=(L:Int):=⟨lf.toNat,by omega⟩
 cases e with | mk k n s kids =>
 obtain⟨Fi,BK⟩:=ha
 have Nz:wv (.mk k n s kids)=1+vY kids:=by unfold wv; rfl
 rw[Nz]at hn
 have hv:=KL kids (D+1)
 have ew:zt ((L:Int)-1)=((L-1:Nat):Int):=by rw[zN (by omega) (by omega)]; omega
 have Ts:=K6 (.mk k n s kids) Fi
 simp only[Int.toNat_natCast]
 unfold bB
 rw[ew]
 have head:((.ite (decide (((L-1:Nat):Int)<(0:Int))) (.ret (true,((L-1:Nat):Int))) (.ite (decide ((32:Int)≤(D:Int))) (.ret (true,((L-1:Nat):Int))) (T.bind (gy (.mk k n s kids)) fun r=>.ret ((!r),((L-1:Nat):Int))))):T (Bool×Int)).run =
   some (!(decide (D<32)&&dq (.mk k n s kids)),((L-1:Nat):Int)):=by
  rw[z8 (decide_eq_false (by omega))]
  by_cases c:D<32
  ·rw[z8 (decide_eq_false (by omega)),z6 Ts,z7,decide_eq_true c,Bool.true_and]
  ·rw[za (decide_eq_true (by omega)),z7,decide_eq_false c]; rfl
 rw[z6 head]
 dsimp only
 unfold vf Y5
 cases q:(decide (D<32)&&dq (.mk k n s kids))with
 | false =>
  rw[za (by rfl),z7,if_neg (by simp),← Bool.and_assoc,q,Bool.false_and]
 | true =>
  rw[z8 (by rfl),if_pos rfl,← Bool.and_assoc,q,Bool.true_and]
  have hD:D<32:=by
   simp only[Bool.and_eq_true,decide_eq_true_eq]at q
   exact q.1
  have ed:zt ((D:Int)+1)=((D+1:Nat):Int):=by rw[zN (by omega) (by omega)]; omega
  have loop:∃ z,(zZ (fun y0 y1 y2=>g (y0,y1,y2)) kids (kids.length:Int) (((D:Int),()),((0:Int),((L-1:Nat):Int)))).run=some z ∧
    ((kQ (D+1) kids=true∧z=.inl ((L-1-nc (D+1) kids:Nat):Int))∨(kQ (D+1) kids=false∧∃ i:Int,0≤i∧z=.inr (i,((L-1-nc (D+1) kids:Nat):Int)))):=by
   refine T.xh (r:=zQ (fun y0 y1 y2=>g (y0,y1,y2)) kids (kids.length:Int)) (fun st:(Int×Unit)×Int×Int=>∃ (j B:Nat),st=(((D:Int),()),(j:Int),(B:Int))∧j≤kids.length∧B≤100000∧vY (kids.drop j)≤B ∧
    B-nc (D+1) (kids.drop j)=L-1-nc (D+1) kids∧kQ (D+1) (kids.drop j)=kQ (D+1) kids) (fun st=>kids.length-st.2.1.toNat) _ (fun st xM => ?_) ⟨0,L-1,rfl,by omega,by omega,by rw[List.drop_zero]; omega,by rw[List.drop_zero],by rw[List.drop_zero]⟩
   obtain⟨j,B,rfl,hj,hB,hnB,hvB,HJ⟩:=xM
   by_cases c:j<kids.length
   ·have hdr:kids.drop j=kids[j]::kids.drop (j+1):=List.drop_eq_getElem_cons c
    rw[hdr]at hnB hvB HJ
    rw[show vY (kids[j]::kids.drop (j+1))=wv kids[j]+vY (kids.drop (j+1))from rfl]at hnB
    rw[show nc (D+1) (kids[j]::kids.drop (j+1))=Y5 (D+1) kids[j]+if vf (D+1) kids[j]=true then nc (D+1) (kids.drop (j+1))else 0 from rfl]at hvB
    rw[show kQ (D+1) (kids[j]::kids.drop (j+1))=(vf (D+1) kids[j]&&kQ (D+1) (kids.drop (j+1)))from rfl]at HJ
    have VZ:=Q1 BK _ (List.getElem_mem c)
    have RL:=LU kids[j] (D+1)
    have EX:wv kids[j]<1+vY kids:=by have:=Qm (List.getElem_mem c); omega
    have GM:=hg (kids[j],((D+1:Nat):Int),(B:Int)) ⟨VZ,by dsimp only; omega,by dsimp only; omega,by dsimp only; omega,by dsimp only; omega⟩ (by dsimp only; rw[Nz]; exact EX)
    dsimp only at GM
    simp only[Int.toNat_natCast]at GM
    have hf:(jr (fun y0 y1 y2=>g (y0,y1,y2)) kids[j] (D:Int) (B:Int)).run=some (!vf (D+1) kids[j],((B-Y5 (D+1) kids[j]:Nat):Int)):=by
     unfold jr
     rw[ed,z6 GM]; rfl
    unfold zQ
    dsimp only
    rw[za (qK c),zc (zm c),qZ c,z6 hf]
    dsimp only
    cases hk:vf (D+1) kids[j]with
    | true =>
     left
     rw[hk,if_pos rfl]at hvB
     rw[hk,Bool.true_and]at HJ
     rw[z8 (by rfl),z7]
     have hlen:=XR kids
     rw[vr j _ c (by omega)]
     refine⟨_,rfl,⟨j+1,B-Y5 (D+1) kids[j],rfl,c,by omega,by omega,by omega,HJ⟩,?_⟩
     simp only[Int.toNat_natCast]
     omega
    | false =>
     right
     rw[hk,if_neg (by simp),Nat.add_zero]at hvB
     rw[hk,Bool.false_and]at HJ
     rw[za (by rfl),z7]
     exact⟨_,rfl,.inr ⟨HJ.symm,(j:Int),by omega,by rw[hvB]⟩⟩
   ·right
    have hj2:j=kids.length:=by omega
    subst hj2
    rw[List.drop_length]at hvB HJ
    unfold zQ
    dsimp only
    rw[z8 (xi _),z7]
    exact⟨_,rfl,.inl ⟨HJ.symm,by rw[← hvB]; rfl⟩⟩
  obtain⟨z,hz,hc⟩:=loop
  have hcf:(qj (fun y0 y1 y2=>g (y0,y1,y2)) kids ((D:Int),()) ((L-1:Nat):Int)).run=some (!kQ (D+1) kids,((L-1-nc (D+1) kids:Nat):Int)):=by
   unfold qj qU
   rcases hc with⟨ho,rfl⟩ | ⟨ho,i,hi,rfl⟩
   ·have:((T.bind (zZ (fun y0 y1 y2=>g (y0,y1,y2)) kids (kids.length:Int) (((D:Int),()),((0:Int),((L-1:Nat):Int))))<|Sum.elim (fun v2=>.ret ((-1:Int),v2)) (fun(x2,v3)=>.ret (x2,v3))):T (Int×Int)).run=some (-1,((L-1-nc (D+1) kids:Nat):Int)):=by
     rw[z6 hz]; rfl
    rw[z6 this,ho]; rfl
   ·have:((T.bind (zZ (fun y0 y1 y2=>g (y0,y1,y2)) kids (kids.length:Int) (((D:Int),()),((0:Int),((L-1:Nat):Int))))<|Sum.elim (fun v2=>.ret ((-1:Int),v2)) (fun(x2,v3)=>.ret (x2,v3))):T (Int×Int)).run=some (i,((L-1-nc (D+1) kids:Nat):Int)):=by
     rw[z6 hz]; rfl
    rw[z6 this,ho,z7,decide_eq_true hi]; rfl
  rw[show Expr.kids (.mk k n s kids)=kids from rfl,z6 hcf]
  dsimp only
  rw[z7,Bool.not_not]
  congr 3
  omega
theorem R7(e:Expr)(h:allOk e)(hn:wv e≤256):(uB e).run=some (vf 0 e):=by
 unfold uB
 have:=z3e e 0 256 h hn (by omega) (by omega)
 have this:(jK e 0 256).run=some (vf 0 e,((256-Y5 0 e:Nat):Int)):=this
 rw[z6 this]; rfl
def dd(acc:List zf)(xs:List zf):List zf:=xs.foldl (fun b x=>if x∈b then b else b++[x]) acc
theorem Wf(acc:List zf):dd acc []=acc:=rfl
theorem tN(acc:List zf)(x:zf)(r:List zf):dd acc (x::r)=dd (if x∈acc then acc else acc++[x]) r:=rfl
theorem tG(acc a b:List zf):dd acc (a++b)=dd (dd acc a) b:=by unfold dd; rw[List.foldl_append]
theorem Ey(acc xs:List zf)(x:zf):x∈dd acc xs↔x∈acc∨x∈xs:=by
 induction xs generalizing acc with
 | nil=>simp[Wf]
 | cons y r ih =>
  rw[tN,ih,List.mem_cons]
  by_cases h:y∈acc
  ·rw[if_pos h]
   constructor
   ·rintro(a | b); exact .inl a; exact .inr (.inr b)
   ·rintro(a | b | c); exact .inl a; exact .inl (b▸h); exact .inr c
  ·rw[if_neg h,List.mem_append,List.mem_singleton,or_assoc]
theorem CM(b s xs:List zf):dd b (dd s xs)=dd (dd b s) xs:=by
 induction xs generalizing s with
 | nil=>rfl
 | cons y r ih =>
  rw[tN,ih,tN]
  by_cases h:y∈s
  ·rw[if_pos h,if_pos ((Ey b s y).2 (.inr h))]
  ·rw[if_neg h,tG,tN,Wf]
theorem z2g(b xs:List zf):dd b (dd [] xs)=dd b xs:=by rw[CM,Wf]
end Go.AM.Lf
namespace Go.AM.PL
def W7:zf→List zf×zf
 | []=>([],[])
 | b::r=>if b=10 then([]::(W7 r).1,(W7 r).2)else match(W7 r).1 with
  | []=>([],b::(W7 r).2)
  | l::ls=>((b::l)::ls,(W7 r).2)
end Go.AM.PL
namespace Go.AM.Lf
open PL
def zgn(u:zf):Option Rat:=if 400<u.length then none else(z14 u).map fun p=>kV (List.isPrefixOf [45] u) p.1 p.2
def zc8(t:zf):Option ItT:=match zgn (Tj t [32]).2.1 with
 | some r=>if xY (Tj t [32]).1=true then some ((Tj t [32]).1,r,())else none
 | none=>none
def ON:List zf→Option (List ItT)
 | []=>some []
 | t::r=>match zc8 t with
  | some x=>(ON r).map (x :: ·)
  | none=>none
theorem vn(s:zf):(vS s).run=some (xY s):=by
 have hL:∀ b:UInt8,(kJ (b.toNat:Int)).run=some (P7 b):=fun _=>rfl
 have hD:∀ b:UInt8,(oT (b.toNat:Int)).run=some (decide (48≤(b.toNat:Int))&&decide ((b.toNat:Int)≤57)):=fun _=>rfl
 unfold vS
 cases s with
 | nil=>rfl
 | cons b r =>
  by_cases c:24<(b::r).length
  ·have:(T.ite (decide (((b::r).length:Int)<(1:Int))) (.ret true) (.ite (decide ((24:Int)<((b::r).length:Int))) (.ret true) (.zd (zi (0:Int) (List.length (b::r)))<|T.bind (kJ (wB (b::r) (0:Int))) fun r=>.ret (!r))):T Bool).run=some true:=by
    rw[z8 (decide_eq_false (by omega)),za (decide_eq_true (by omega)),z7]
   rw[z6 this,zy,z7]
   unfold xY
   rw[decide_eq_false (by omega)]; rfl
  ·have hb:wB (b::r) (0:Int)=(b.toNat:Int):=oK (s:=b::r) (k:=0) (by simp)
   have:(T.ite (decide (((b::r).length:Int)<(1:Int))) (.ret true) (.ite (decide ((24:Int)<((b::r).length:Int))) (.ret true) (.zd (zi (0:Int) (List.length (b::r)))<|T.bind (kJ (wB (b::r) (0:Int))) fun r=>.ret (!r))):T Bool).run=some (!P7 b):=by
    rw[z8 (decide_eq_false (by simp only[List.length_cons]; omega)),z8 (decide_eq_false (by omega)),zc (by refine⟨by omega,?_⟩; simp only[List.length_cons]; omega),hb,z6 (hL b),z7]
   rw[z6 this]
   unfold xY
   dsimp only
   rw[decide_eq_true (by omega),Bool.true_and]
   cases hbl:P7 b with
   | false=>rw[za (by rfl),z7]; rfl
   | true =>
    rw[z8 (by rfl),Bool.true_and]
    have hbi:ZE b=true:=by unfold ZE; rw[hbl]; rfl
    have key:(Xn (b::r) 1).run=some (if r.all ZE=true then .inl ()else .inr false):=by
     have SC:=ub (r:=kP (b::r)) (fun i=>∃ k:Nat,i=((k+1:Nat):Int)∧k≤r.length) (fun i=>((b::r).length:Int).toNat-i.toNat) (fun i=>if(r.drop (i.toNat-1)).all ZE=true then .inl ()else .inr false) (fun i hi => ?_) (s:=1) ⟨0,rfl,by omega⟩
     ·exact SC
     ·obtain⟨k,rfl,hk⟩:=hi
      have ek:((k+1:Nat):Int).toNat-1=k:=by omega
      by_cases q:k<r.length
      ·have hq:k+1<(b::r).length:=by simp only[List.length_cons]; omega
       have DG:wB (b::r) ((k+1:Nat):Int)=(r[k].toNat:Int):=by rw[oK hq]; rfl
       have Di:r.drop k=r[k]::r.drop (k+1):=List.drop_eq_getElem_cons q
       have Qp:((.zd (zi ((k+1:Nat):Int) (List.length (b::r)))<|T.bind (kJ (wB (b::r) ((k+1:Nat):Int))) fun r1 =>
         .ite (!r1) (.zd (zi ((k+1:Nat):Int) (List.length (b::r)))<|T.bind (oT (wB (b::r) ((k+1:Nat):Int))) fun r2 =>
           .ite (!r2) (.zd (zi ((k+1:Nat):Int) (List.length (b::r)))<|.ret ((wB (b::r) ((k+1:Nat):Int)) != (95:Int))) (.ret false)) (.ret false)):T Bool).run=some (!ZE r[k]):=by
        rw[zc (zm hq),DG,z6 (hL _)]
        unfold ZE
        cases P7 r[k]with
        | true=>rfl
        | false =>
         rw[za (by rfl),zc (zm hq),z6 (hD _)]
         cases(decide (48≤(r[k].toNat:Int))&&decide ((r[k].toNat:Int)≤57))with
         | true=>rfl
         | false=>rw[za (by rfl),zc (zm hq),z7]; rfl
       cases hik:ZE r[k]with
       | true =>
        left
        refine⟨((k+1+1:Nat):Int),?_,⟨k+1,rfl,q⟩,by simp only[List.length_cons]; omega,?_⟩
        ·unfold kP
         rw[za (qK hq),z6 Qp,hik,z8 (by rfl),z7,vr (k+1) _ hq (by omega)]
        ·rw[ek,Di,List.all_cons,hik,Bool.true_and,show((k+1+1:Nat):Int).toNat-1=k+1 by omega]
       | false =>
        right
        unfold kP
        rw[za (qK hq),z6 Qp,hik,za (by rfl),z7,ek,Di,List.all_cons,hik]
        rfl
      ·right
       have ga:k=r.length:=by omega
       unfold kP
       rw[z8 (decide_eq_false (by simp only[List.length_cons]; omega)),z7,ek,ga,List.drop_length]; rfl
    rw[z6 key,List.all_cons,hbi,Bool.true_and]
    cases h:r.all ZE with
    | true=>rfl
    | false=>rfl
def zeW(l:List ItT):zf:=l.flatMap zcp
def JG(s:zf):List ItT×Int:=match ON (W7 s).1 with
 | some ys=>if zeW ys=s then(ys,0)else([],2)
 | none=>([],2)
theorem zgO(a b:Rat):((a.1==b.1)&&((a.2.1==b.2.1)&&(a.2.2.1==b.2.2.1)))=true↔a=b:=by
 obtain⟨a1,a2,a3,⟨⟩⟩:=a
 obtain⟨b1,b2,b3,⟨⟩⟩:=b
 simp only[Bool.and_eq_true,beq_iff_eq,Prod.mk.injEq,and_true]
theorem SY(a:Rat)(h1:zu a.2.1)(h2:zu a.2.2.1):dR a=true↔norm a=a:=by
 unfold dR norm
 obtain⟨b,N,D,⟨⟩⟩:=a
 dsimp only at h1 h2 ⊢
 simp only[Bool.and_eq_true,Bool.not_eq_true',beq_eq_false_iff_ne,beq_iff_eq,Bool.and_eq_false_imp]
 constructor
 ·rintro⟨t1,t2,hd,hn,hg⟩
  have eN:zF (nv N)=N:=ZG h1 ((ju h1).1 t1)
  have eD:zF (nv D)=D:=ZG h2 ((ju h2).1 t2)
  unfold kV
  by_cases c:nv N=0
  ·rw[if_pos (.inl c)]
   rw[c,Nat.gcd_zero_left]at hg
   rw[c,qz]at eN
   rw[hg,lH]at eD
   cases b with
   | true=>exact absurd c (hn rfl)
   | false=>rw[← eN,← eD]
  ·rw[if_neg (by rintro(h | h); exact c h; exact hd h),hg,Nat.div_one,Nat.div_one,eN,eD]
 ·intro e
  unfold kV at e
  by_cases c:nv N=0∨nv D=0
  ·rw[if_pos c]at e
   simp only[Prod.mk.injEq,and_true]at e
   obtain⟨rfl,rfl,rfl⟩:=e
   refine⟨by rw[ju h1]; exact W1,?_,by decide,by simp,by decide⟩
   rw[ju h2,← lH]; exact sO _
  ·rw[if_neg c]at e
   simp only[Prod.mk.injEq,and_true,true_and]at e
   obtain⟨e1,e2⟩:=e
   simp only[not_or]at c
   have v1:nv N=nv N / Nat.gcd (nv N) (nv D):=by conv=>lhs; rw[← e1,zO]
   refine⟨by rw[ju h1,← e1]; exact sO _,by rw[ju h2,← e2]; exact sO _,c.2,fun _=>c.1,?_⟩
   have hp:0<nv N:=Nat.pos_of_ne_zero c.1
   by_cases g:Nat.gcd (nv N) (nv D)=1
   ·exact g
   ·have hg0:0<Nat.gcd (nv N) (nv D):=Nat.gcd_pos_of_pos_left _ hp
    have:=Nat.div_lt_self hp (by omega:1<Nat.gcd (nv N) (nv D))
    omega
theorem UG(a b:List Int)(la:a.length≤1000000000):(j0 a b).run=some (a==b):=by
 unfold j0
 by_cases hlen:a.length=b.length
 ·have key:(cO a b 0).run=some (if a=b then .inl ()else .inr false):=by
   have h:=ub (r:=wH a b) (fun i=>∃ k:Nat,i=(k:Int)∧k≤a.length) (fun i=>a.length-i.toNat) (fun i=>if a.drop i.toNat=b.drop i.toNat then .inl ()else .inr false) (fun i hi => ?_) (s:=0) ⟨0,rfl,by omega⟩
   ·unfold cO; simpa using h
   ·obtain⟨k,rfl,hk⟩:=hi
    by_cases c:k<a.length
    ·have cb:k<b.length:=by omega
     have ea:a.drop k=a[k]::a.drop (k+1):=List.drop_eq_getElem_cons c
     have eb:b.drop k=b[k]::b.drop (k+1):=List.drop_eq_getElem_cons cb
     have ek:((k:Nat):Int).toNat=k:=rfl
     have SX:(a.drop k=b.drop k)↔(a[k]=b[k]∧a.drop (k+1)=b.drop (k+1)):=by rw[ea,eb,List.cons.injEq]
     have ek1:((k+1:Nat):Int).toNat=k+1:=rfl
     by_cases q:a[k]=b[k]
     ·left
      refine⟨((k+1:Nat):Int),?_,⟨k+1,rfl,c⟩,by omega,?_⟩
      ·unfold wH
       rw[za (qK c),zc (zm c),zc (zm cb),qZ c,qZ cb,z8 (by simp[q]),z7,vr k _ c (by omega)]
      ·simp only[ek,ek1,SX,q,true_and]
     ·right
      unfold wH
      rw[za (qK c),zc (zm c),zc (zm cb),qZ c,qZ cb,za (by simp[q]),z7,ek,if_neg (by rw[SX]; exact fun h=>q h.1)]
    ·right
     have ga:k=a.length:=by omega
     unfold wH
     rw[z8 (decide_eq_false (by omega)),z7,ga]
     simp[hlen]
  rw[z8 (by rw[hlen]; simp),z6 key]
  by_cases e:a=b
  ·rw[if_pos e,e]; simp
  ·rw[if_neg e]
   have:(a==b)=false:=by simpa using e
   rw[this]; rfl
 ·have e:(a==b)=false:=by
   rw[beq_eq_false_iff_ne]
   intro e; exact hlen (by rw[e])
  rw[za (by simp; omega),z7,e]
theorem V0(a:Rat)(h:xf 100000000 a):(QI a).run=some (dR a):=by
 unfold QI
 have hb:dR a=((a.1==(norm a).1)&&((a.2.1==(norm a).2.1)&&(a.2.2.1==(norm a).2.2.1))):=by
  rw[Bool.eq_iff_iff,SY a h.1 h.2.1,zgO]
  exact⟨fun e=>e.symm,fun e=>e.symm⟩
 rw[z6 (xN a h),hb]
 cases a.1==(norm a).1 with
 | false=>rfl
 | true =>
  rw[zy,z6 (UG _ _ (by have:=h.2.2.1; omega))]
  cases a.2.1==(norm a).2.1 with
  | false=>rfl
  | true=>rw[zy,z6 (UG _ _ (by have:=h.2.2.2; omega)),z7]; rfl
theorem fy(a:Rat)(h:xf 100000000 a):(kg a).run=some (wW a):=by
 unfold kg wW
 rw[z6 (xN a h),z7]
 congr 2
 ·exact decide_eq_decide.2 (by omega)
 ·exact decide_eq_decide.2 (by omega)
theorem mc(a:Rat)(h:xf 100000000 a):(cn a).run=some (dR a && !wW a):=by
 unfold cn
 rw[z6 (V0 a h)]
 cases dR a with
 | false=>rfl
 | true=>rw[zy,z6 (fy a h),z7]; rfl
theorem Nk(a:Rat)(h:VG a):(k8 a).run=some (ud a):=by
 unfold k8 ud
 have hr:=V0 a (xR h (by omega))
 have e:∀ l:List Int,(((l.length:Int))==0)=l.isEmpty:=fun l=>by cases l<;>simp; omega
 rw[e,e]
 cases a.1 with
 | true=>rfl
 | false =>
  rw[za (by rfl)]
  cases a.2.1.isEmpty with
  | false=>rfl
  | true =>
   rw[zy]
   cases a.2.2.1.isEmpty with
   | true=>rfl
   | false=>rw[zr,z6 hr,z7]; rfl
theorem Tl(g:Expr×Int→T Bool)(kids:List Expr)(k0:Int)(n0:Rat)(s0:zf)(D:Nat)(hl:kids.length≤100000)
  (hg:∀ e∈kids,(g (e,zt (((D+1:Nat):Int)+1))).run=some (vf (D+1) e)) :
  (sJ (fun y0 y1=>g (y0,y1)) ((D+1:Nat):Int) (.mk k0 n0 s0 kids) (kids.length:Int) 0).run=some (if kQ (D+1) kids=true then .inl ()else .inr false):=by
 refine T.js (r:=dw (fun y0 y1=>g (y0,y1)) ((D+1:Nat):Int) (.mk k0 n0 s0 kids) (kids.length:Int)) kids (zb .expr) (fun(_:Unit) i=>i) (fun _ _=>True) (fun l _=>(if kQ (D+1) l=true then .inl ()else .inr false:Unit⊕Bool)) (fun k _ x xs hk hx hm hd hI => ?_) (fun _ _ => ?_) (b:=()) trivial
 ·have FR:=hg x hm
  have ek:Expr.kids (.mk k0 n0 s0 kids)=kids:=rfl
  unfold dw
  rw[za (qK hk),ek,zc (zm hk),hx,z6 FR]
  cases q:vf (D+1) x with
  | true =>
   left
   refine⟨(),?_,trivial,?_⟩
   ·rw[z8 (by rfl),z7,vr k _ hk (by omega)]
   ·show _=(if(vf (D+1) x&&kQ (D+1) xs)=true then _ else _)
    rw[q,Bool.true_and]
  | false =>
   right
   rw[za (by rfl),z7]
   show _=some (Sum.inr (if(vf (D+1) x&&kQ (D+1) xs)=true then _ else _))
   rw[q,Bool.false_and]; rfl
 ·unfold dw
  rw[z8 (xi _),z7]; rfl
theorem Ls(e:Expr)(deep:Nat)(h:allOk e)(hn:wv e≤100000)(hd:deep≤32):(mD e ((deep+1:Nat):Int)).run=some (vf deep e):=by
 unfold mD
 refine y4 (fun x:Expr×Int=>allOk x.1∧wv x.1≤100000∧1≤x.2∧x.2≤33) (fun x=>wv x.1) (fun x=>vf (x.2.toNat-1) x.1) (fun x hx g hg => ?_) (x:=(e,((deep+1:Nat):Int))) ⟨h,hn,by dsimp only; omega,by dsimp only; omega⟩
 obtain⟨e,d⟩:=x
 obtain⟨ha,hn,DX,ME⟩:=hx
 dsimp only at ha hn DX ME
 obtain⟨D,rfl⟩:∃ D:Nat,d=((D+1:Nat):Int):=⟨d.toNat-1,by omega⟩
 cases e with | mk k n s kids =>
 obtain⟨Fi,BK⟩:=ha
 have Nz:wv (.mk k n s kids)=1+vY kids:=rfl
 have hlen:=XR kids
 have Ss:(((D+1:Nat):Int)).toNat-1=D:=by omega
 dsimp only
 rw[Ss]
 unfold oC
 show _=some (decide (D<32)&&(dq (.mk k n s kids)&&kQ (D+1) kids))
 by_cases c:D<32
 ·rw[z8 (decide_eq_false (by omega)),decide_eq_true c,Bool.true_and]
  have hN:=sb n (xR Fi (by omega))
  have hG:=mc n (xR Fi (by omega))
  have hB:=Nk n Fi
  have hNm:=vn s
  have e0:∀ m:Nat,(((m:Int))==0)=(((m:Int))==(0:Int)):=fun _=>rfl
  have GM:∀ e∈kids,(g (e,zt (((D+1:Nat):Int)+1))).run=some (vf (D+1) e):=fun e he=>by
   have hm:=Qm he
   have ew:zt (((D+1:Nat):Int)+1)=((D+1+1:Nat):Int):=by rw[zN (by omega) (by omega)]; omega
   have:=hg (e,((D+1+1:Nat):Int)) ⟨Q1 BK e he,by dsimp only; omega,by dsimp only; omega,by dsimp only; omega⟩ (by dsimp only; rw[Nz]; omega)
   rw[ew,this]
   dsimp only
   rw[show(((D+1+1:Nat):Int)).toNat-1=D+1 by omega]
  have SC:=Tl g kids k n s D (by omega) GM
  have zb7:Expr.kids (.mk k n s kids)=kids:=rfl
  have zag:Expr.kind (.mk k n s kids)=k:=rfl
  have zaJ:Expr.name (.mk k n s kids)=s:=rfl
  have z9V:Expr.num (.mk k n s kids)=n:=rfl
  have tail:∀ kd:Int,(T.bind (.ite ((Nat.cast (List.length kids):Int) != kd) (.ret true) (.ite (!(zH s ([]:zf))) (.ret true) (T.bind (k8 n) fun r4=>.ret (!r4))):T Bool) fun x1 =>
     .ite x1 (.ret false) (T.bind (sJ (fun y0 y1=>g (y0,y1)) ((D+1:Nat):Int) (.mk k n s kids) kd (0:Int))<|Sum.elim (fun _=>.ret true) (fun x2=>.ret x2)):T Bool).run =
     some (((kids.length:Int)==kd)&&((ud n&&zH s [])&&kQ (D+1) kids)):=by
   intro kd
   have head:(.ite ((Nat.cast (List.length kids):Int) != kd) (.ret true) (.ite (!(zH s ([]:zf))) (.ret true) (T.bind (k8 n) fun r4=>.ret (!r4))):T Bool).run=some (!(((kids.length:Int)==kd)&&(ud n&&zH s []))):=by
    cases q:((kids.length:Int)==kd)with
    | false=>rw[za (by rw[bne,q]; rfl)]; rfl
    | true =>
     rw[z8 (by rw[bne,q]; rfl)]
     cases zH s []with
     | false=>rw[za (by rfl),z7,Bool.and_false]; rfl
     | true=>rw[z8 (by rfl),z6 hB,z7,Bool.and_true,Bool.true_and]
   rw[z6 head]
   cases q:((kids.length:Int)==kd)with
   | false=>rfl
   | true =>
    have hkd:kd=(kids.length:Int):=by
     have:(kids.length:Int)=kd:=by simpa using q
     exact this.symm
    subst hkd
    rw[Bool.true_and,Bool.true_and]
    cases(ud n&&zH s [])with
    | false=>rfl
    | true =>
     rw[z8 (by rfl),z6 SC,Bool.true_and]
     cases kQ (D+1) kids<;>rfl
  unfold dq Va
  rw[zb7,zag,zaJ,z9V]
  by_cases h1:k=1
  ·subst h1
   have head:(T.bind (cq n) fun(r,ok)=>.ite ((Nat.cast (List.length kids):Int)==(0:Int)) (.ite (zH s ([]:zf)) (T.bind (cn n) fun r1=>.ite r1 (.ite (!n.1) (.ret (.inr ok)) (.ret (.inr false))) (.ret (.inr false))) (.ret (.inr false))) (.ret (.inr false)):T (Int⊕Bool)).run=some (.inr (((kids.length:Int)==0)&&(cr n&&zH s []))):=by
    rw[z6 hN]
    unfold cr
    generalize xO (norm n).1 (nv (norm n).2.1) (nv (norm n).2.2.1) 0 61=x
    obtain⟨x1,x2⟩:=x
    dsimp only
    cases(Nat.cast (List.length kids):Int)==(0:Int)with
    | false=>rfl
    | true =>
     rw[zy]
     cases zH s []with
     | false=>rw[zr,z7,Bool.and_false]; rfl
     | true =>
      rw[zy,z6 hG]
      cases dR n<;>cases wW n<;>cases n.1<;>cases x2<;>rfl
   refine(z6 (a:=.inr (((kids.length:Int)==0)&&(cr n&&zH s []))) ?_ _).trans ?_
   ·rw[za (by rfl)]; exact head
   ·rw[Sum.elim_inr,z7,if_pos (.inl rfl),if_pos rfl]
    cases q:((kids.length:Int)==0)with
    | false=>rfl
    | true =>
     have:kids=[]:=List.eq_nil_of_length_eq_zero (by have:(kids.length:Int)=0:=(by simpa using q); omega)
     subst this
     show _=some (true&&(cr n&&zH s [])&&true)
     rw[Bool.and_true]
  ·by_cases h2:k=2
   ·subst h2
    have head:(.ite ((Nat.cast (List.length kids):Int)==(0:Int)) (T.bind (vS s) fun r2=>.ite r2 (T.bind (k8 n) fun r3=>.ret (.inr r3)) (.ret (.inr false))) (.ret (.inr false)):T (Int⊕Bool)).run=some (.inr (((kids.length:Int)==0)&&(ud n&&xY s))):=by
     cases(Nat.cast (List.length kids):Int)==(0:Int)with
     | false=>rfl
     | true =>
      rw[zy,z6 hNm]
      cases xY s with
      | false=>rw[zr,z7,Bool.and_false]; rfl
      | true=>rw[zy,z6 hB,z7,Bool.and_true,Bool.true_and]
    refine(z6 (a:=.inr (((kids.length:Int)==0)&&(ud n&&xY s))) ?_ _).trans ?_
    ·rw[z8 (by rfl),za (by rfl)]; exact head
    ·rw[Sum.elim_inr,z7,if_pos (.inr rfl),if_neg (by decide),if_pos rfl]
     cases q:((kids.length:Int)==0)with
     | false=>rfl
     | true =>
      have:kids=[]:=List.eq_nil_of_length_eq_zero (by have:(kids.length:Int)=0:=(by simpa using q); omega)
      subst this
      show _=some (true&&(ud n&&xY s)&&true)
      rw[Bool.and_true]
   ·have k1:(k==1)=false:=by simpa using h1
    have k2:(k==2)=false:=by simpa using h2
    have fin:∀ kd:Int,(if k=7 then(1:Int)else if k=3∨k=4∨k=5∨k=6 then 2 else -1)=kd→((((kids.length:Int)==kd)&&((ud n&&zH s [])&&kQ (D+1) kids))) =
      ((((kids.length:Int)==(if k=1∨k=2 then(0:Int)else if k=7 then 1 else if k=3∨k=4∨k=5∨k=6 then 2 else -1))&&(if k=1 then cr n&&zH s []else if k=2 then ud n&&xY s else ud n&&zH s []))&&kQ (D+1) kids):=by
     intro kd hkd
     rw[if_neg (by rintro(h | h); exact h1 h; exact h2 h),hkd,if_neg h1,if_neg h2]
     simp only[Bool.and_assoc]
    by_cases h7:k=7
    ·refine(z6 (a:=.inl 1) ?_ _).trans ?_
     ·rw[z8 k1,z8 k2,za (by simpa using h7),z7]
     ·rw[Sum.elim_inl,← fin 1 (by rw[if_pos h7])]; exact tail 1
    ·have k7:(k==7)=false:=by simpa using h7
     by_cases h3:k=3
     ·refine(z6 (a:=.inl 2) ?_ _).trans ?_
      ·rw[z8 k1,z8 k2,z8 k7,za (by simpa using h3),z7]
      ·rw[Sum.elim_inl,← fin 2 (by rw[if_neg h7,if_pos (.inl h3)])]; exact tail 2
     ·have k3:(k==3)=false:=by simpa using h3
      by_cases h4:k=4
      ·refine(z6 (a:=.inl 2) ?_ _).trans ?_
       ·rw[z8 k1,z8 k2,z8 k7,z8 k3,za (by simpa using h4),z7]
       ·rw[Sum.elim_inl,← fin 2 (by rw[if_neg h7,if_pos (.inr (.inl h4))])]; exact tail 2
      ·have k4:(k==4)=false:=by simpa using h4
       by_cases h5:k=5
       ·refine(z6 (a:=.inl 2) ?_ _).trans ?_
        ·rw[z8 k1,z8 k2,z8 k7,z8 k3,z8 k4,za (by simpa using h5),z7]
        ·rw[Sum.elim_inl,← fin 2 (by rw[if_neg h7,if_pos (.inr (.inr (.inl h5)))])]; exact tail 2
       ·have k5:(k==5)=false:=by simpa using h5
        by_cases h6:k=6
        ·refine(z6 (a:=.inl 2) ?_ _).trans ?_
         ·rw[z8 k1,z8 k2,z8 k7,z8 k3,z8 k4,z8 k5,za (by simpa using h6),z7]
         ·rw[Sum.elim_inl,← fin 2 (by rw[if_neg h7,if_pos (.inr (.inr (.inr h6)))])]; exact tail 2
        ·have k6:(k==6)=false:=by simpa using h6
         refine(z6 (a:=.inr false) ?_ _).trans ?_
         ·rw[z8 k1,z8 k2,z8 k7,z8 k3,z8 k4,z8 k5,z8 k6,z7]
         ·rw[Sum.elim_inr,z7,← fin (-1) (by rw[if_neg h7,if_neg (by rintro(h | h | h | h)<;>contradiction)])]
          have:((kids.length:Int) == -1)=false:=by simp
          rw[this]; rfl
 ·rw[za (decide_eq_true (by omega)),z7,decide_eq_false c]; rfl
theorem hO(l:List zf)(s:zf)(hl:l.length≤1000000000):(yK l s).run=some (decide (s∈l)):=by
 have key:(Vy l s 0).run=some (if s∈l then .inr true else .inl ()):=by
  refine T.js (r:=dI l s) l (zb .str) (fun(_:Unit) i=>i) (fun _ _=>True) (fun l _=>(if s∈l then .inr true else .inl ():Unit⊕Bool)) (fun k _ x xs hk hx hm hd hI => ?_) (fun _ _ => ?_) (b:=()) trivial
  ·unfold dI
   rw[za (qK hk),zc (zm hk),hx,wm]
   by_cases q:x=s
   ·right
    rw[za (decide_eq_true q),z7,if_pos (by simp[q])]
   ·left
    refine⟨(),?_,trivial,?_⟩
    ·rw[z8 (decide_eq_false q),z7,vr k _ hk (by omega)]
    ·have:(s∈x::xs)↔s∈xs:=by rw[List.mem_cons]; exact⟨fun h=>h.resolve_left fun e=>q e.symm,.inr⟩
     simp only[this]
  ·unfold dI
   rw[z8 (xi _),z7,if_neg (by simp)]
 unfold yK
 rw[z6 key]
 by_cases h:s∈l
 ·rw[if_pos h,decide_eq_true h]; rfl
 ·rw[if_neg h,decide_eq_false h]; rfl
theorem Eg(xs acc:List zf):(dd acc xs).length≤acc.length+xs.length:=by
 induction xs generalizing acc with
 | nil=>simp[Wf]
 | cons x r ih =>
  rw[tN]
  have:=ih (if x∈acc then acc else acc++[x])
  have h2:(if x∈acc then acc else acc++[x]).length≤acc.length+1:=by split<;>simp
  simp only[List.length_cons]; omega
mutual
theorem Kb:∀ e:Expr,(allE e).length≤bkE e
 | .mk k n s l=>by
  have:=YR l
  unfold allE bkE
  rw[List.length_append]
  split<;>simp<;>omega
theorem YR:∀ l:List Expr,(allEs l).length≤bkEs l
 | []=>by simp[allEs]
 | e::r=>by
  have h1:=Kb e
  have h2:=YR r
  unfold allEs bkEs
  rw[List.length_append]; omega
end
theorem CD(g:Expr→T (List zf))(e:Expr)(i:Int)(m acc:List zf)(hm:m.length≤10000000)(ha:acc.length≤10000000) :
  (Zi (fun y0=>g y0) e i m (0,acc)).run=some (dd acc m):=by
 have key:=T.mZ (r:=yv (fun y0=>g y0) e i m) m (zb .str) (fun(b:List zf) i=>(i,b)) (fun k b=>b.length≤acc.length+k) (fun b x=>if x∈b then b else b++[x]) id (fun k b x hk hx hm' hI => ?_) (fun b hI => ?_) (b:=acc) (by simp)
 ·exact key.1
 ·have hH:=hO b x (by omega)
  unfold yv
  dsimp only
  rw[za (qK hk),zc (zm hk),hx,T.zk,Nat.zero_add,List.take_length,List.drop_zero,z6 hH]
  by_cases q:x∈b
  ·rw[decide_eq_true q,if_pos q,z8 (by rfl),ze _ rfl rfl rfl,T.zk,z7,vr k _ hk (by omega)]
   exact⟨rfl,by omega⟩
  ·rw[decide_eq_false q,if_neg q,za (by rfl),zc (zm hk),xc _ rfl rfl rfl (by omega),ze _ (by simp) rfl (by simp),zc (by simp),z7,vr k _ hk (by omega)]
   exact⟨rfl,by simp; omega⟩
 ·unfold yv
  dsimp only
  rw[z8 (xi _),ze _ rfl rfl rfl,T.zk,z7]; rfl
theorem sA(e:Expr)(hb:bkE e≤1000000):(fO e).run=some (dd [] (allE e)):=by
 unfold fO
 refine y4 (fun x:Expr=>bkE x≤1000000) (fun x=>bkE x) (fun x=>dd [] (allE x)) (fun x hx g hg => ?_) (x:=e) hb
 have hk:=gB x
 have DP:=iA x.kids
 have loop:∀ acc:List zf,acc.length≤1→(yB (fun y0=>g y0) x (0,acc)).run=some (dd acc (allEs x.kids)):=by
  intro acc FG
  have key:=mJ (r:=yo (fun y0=>g y0) x) x.kids (zb .expr) (fun(b:List zf) i=>(i,b)) (fun b r=>b.length+bkEs r≤1+bkEs x.kids∧∀ y∈r,y∈x.kids) (fun r b=>dd b (allEs r)) ?_ ?_ ⟨(by omega:acc.length+bkEs x.kids≤1+bkEs x.kids),fun y hy=>hy⟩
  ·exact key
  ·rintro b y ys i h0 hi hy ⟨h1,h2⟩
   obtain⟨j,rfl⟩:∃ j:Nat,i=(j:Int):=⟨i.toNat,by omega⟩
   have hj:j<x.kids.length:=by omega
   simp only[bkEs]at h1
   have hm:=gN (h2 y List.mem_cons_self)
   have hr:=hg y (by omega) (by omega)
   have hl:=Kb y
   have hd:=Eg (allE y) []
   simp only[List.length_nil]at hd
   have Qp:=CD g x (j:Int) (dd [] (allE y)) b (by omega) (by omega)
   rw[z2g]at Qp
   have hbl:=Eg (allE y) b
   refine .inl ⟨dd b (allE y),?_,⟨by omega,fun z hz=>h2 z (List.mem_cons_of_mem _ hz)⟩,?_⟩
   ·unfold yo
    dsimp only
    rw[za (decide_eq_true hi),zc ⟨h0,hi⟩,hy,z6 hr,ze _ rfl rfl rfl,T.zk,z6 Qp,ze _ rfl rfl rfl,T.zk,z7,zN (by omega) (by omega)]
   ·show dd (dd b (allE y)) (allEs ys)=dd b (allE y++allEs ys)
    rw[tG]
  ·rintro b _
   unfold yo
   dsimp only
   rw[z8 (xi _),ze _ rfl rfl rfl,T.zk,z7]; rfl
 unfold eU
 cases x with | mk k n s kids =>
 by_cases h2:k=2
 ·subst h2
  have hL:=loop [s] (by simp)
  have hL:(yB (fun y0=>g y0) (.mk 2 n s kids) ((0:Int),([Expr.name (.mk 2 n s kids)]:List zf))).run=some (dd [s] (allEs kids)):=hL
  rw[za (by rfl),zD _ (by omega),ze _ rfl rfl rfl,T.zk,z6 hL,T.zk,z7,Nat.zero_add,List.take_length,List.drop_zero]
  rfl
 ·have hL:=loop [] (by simp)
  have hL:(yB (fun y0=>g y0) (.mk k n s kids) ((0:Int),([]:List zf))).run=some (dd [] (allEs kids)):=hL
  rw[z8 (by show(k==2)=false; simpa using h2),ze _ rfl rfl rfl,T.zk,z6 hL,T.zk,z7,Nat.zero_add,List.take_length,List.drop_zero]
  show some (dd [] (allEs kids))=some (dd [] ((if k=2 then[s]else[])++allEs kids))
  rw[if_neg h2]; rfl
theorem XV(e:Expr)(F:List zf)(hb:bkE e≤1000000)(hF:F.length≤1000000000):(bc e F).run=some (oq e F):=by
 have hN:=sA e hb
 have hl:=Eg (allE e) []
 have iL:=Kb e
 simp only[List.length_nil]at hl
 have key:∀ l:List zf,l.length≤1000000000→(VH F l 0).run=some (if ∃ x∈l,x∈F then .inr true else .inl ()):=by
  intro l hl
  refine T.js (r:=dy F l) l (zb .str) (fun(_:Unit) i=>i) (fun _ _=>True) (fun l _=>(if ∃ x∈l,x∈F then .inr true else .inl ():Unit⊕Bool)) (fun k _ x xs hk hx hm hd hI => ?_) (fun _ _ => ?_) (b:=()) trivial
  ·unfold dy
   rw[za (qK hk),zc (zm hk),hx,z6 (hO F x hF)]
   by_cases q:x∈F
   ·right
    rw[decide_eq_true q,za (by rfl),z7,if_pos ⟨x,List.mem_cons_self,q⟩]
   ·left
    refine⟨(),?_,trivial,?_⟩
    ·rw[decide_eq_false q,z8 (by rfl),z7,vr k _ hk (by omega)]
    ·have:(∃ y∈x::xs,y∈F)↔∃ y∈xs,y∈F:=by
      constructor
      ·rintro⟨y,hy,hf⟩
       rcases List.mem_cons.1 hy with rfl | hy
       ·exact absurd hf q
       ·exact⟨y,hy,hf⟩
      ·rintro⟨y,hy,hf⟩; exact⟨y,List.mem_cons_of_mem _ hy,hf⟩
     simp only[this]
  ·unfold dy
   rw[z8 (xi _),z7,if_neg (by simp)]
 unfold bc
 rw[z6 hN,z6 (key _ (by omega))]
 have SX:(∃ x∈dd [] (allE e),x∈F)↔oq e F=true:=by
  rw[Tq]
  constructor
  ·rintro⟨x,hx,hf⟩
   rcases(Ey _ _ _).1 hx with h | h
   ·cases h
   ·exact⟨x,h,hf⟩
  ·rintro⟨x,hx,hf⟩; exact⟨x,(Ey _ _ _).2 (.inr hx),hf⟩
 by_cases h:oq e F=true
 ·rw[if_pos (SX.2 h),h]; rfl
 ·rw[if_neg (fun z=>h (SX.1 z)),Bool.not_eq_true _ |>.mp h]; rfl
theorem pz(e:Expr)(F:List zf)(hb:bkE e≤1000000)(hF:F.length≤1000000000):(dn e F).run=some (da F e):=by
 unfold dn
 refine y4 (fun x:Expr×List zf=>bkE x.1≤1000000∧x.2=F) (fun x=>bkE x.1) (fun x=>da F x.1) (fun x hx g hg => ?_) (x:=(e,F)) ⟨hb,rfl⟩
 obtain⟨x,F'⟩:=x
 obtain⟨hx,rfl⟩:=hx
 dsimp only at hx
 have hk:=gB x
 have DP:=iA x.kids
 have loop:(rh (fun y0 y1=>g (y0,y1)) F' x 0).run=some (if rA F' x.kids=true then .inl ()else .inr false):=by
  refine T.js (r:=jS (fun y0 y1=>g (y0,y1)) F' x) x.kids (zb .expr) (fun(_:Unit) i=>i) (fun _ _=>True) (fun l _=>(if rA F' l=true then .inl ()else .inr false:Unit⊕Bool)) (fun k _ y ys Ko hy hm hd hI => ?_) (fun _ _ => ?_) (b:=()) trivial
  ·have hm:=gN hm
   have hr:=hg (y,F') ⟨by dsimp only; omega,rfl⟩ (by dsimp only; omega)
   dsimp only at hr
   unfold jS
   rw[za (qK Ko),zc (zm Ko),hy,z6 hr]
   cases q:da F' y with
   | true =>
    left
    refine⟨(),?_,trivial,?_⟩
    ·rw[z8 (by rfl),z7,vr k _ Ko (by omega)]
    ·show _=(if(da F' y&&rA F' ys)=true then _ else _)
     rw[q,Bool.true_and]
   | false =>
    right
    rw[za (by rfl),z7]
    show _=some (Sum.inr (if(da F' y&&rA F' ys)=true then _ else _))
    rw[q,Bool.false_and]; rfl
  ·unfold jS
   rw[z8 (xi _),z7]; rfl
 unfold cN
 rw[z6 loop]
 cases x with | mk k n s kids =>
 show _=some (da F' (.mk k n s kids))
 rw[show Expr.kids (.mk k n s kids)=kids from rfl,show Expr.kind (.mk k n s kids)=k from rfl]at *
 cases hl:rA F' kids with
 | false =>
  rw[if_neg (by simp)]
  show(T.ret false:T Bool).run=some (!JO F' k kids&&rA F' kids)
  rw[hl,Bool.and_false]; rfl
 | true =>
  rw[if_pos rfl]
  have z92:da F' (.mk k n s kids) = !JO F' k kids:=by
   show(!JO F' k kids&&rA F' kids)=_
   rw[hl,Bool.and_true]
  rw[z92,Sum.elim_inl]
  have other:(((kids.length:Int))==2)=false→JO F' k kids=false:=fun h=>by
   unfold JO
   split
   ·simp at h
   ·rfl
  cases h2:(((kids.length:Int))==2)with
  | false =>
   rw[other h2,Bool.and_false,Bool.and_false]; rfl
  | true =>
   match kids,h2,hk,hx with
   | [a,b],_,hk,hx =>
    have ha:bkE a≤1000000:=by simp only[bkE,bkEs]at hx; omega
    have Zf:bkE b≤1000000:=by simp only[bkE,bkEs]at hx; omega
    have ra:=XV a F' ha hF
    have rb:=XV b F' Zf hF
    show(.ite ((k==5)&&true) (.zd (zi 0 2)<|T.bind (bc a F') fun r1=>.ite (!r1) (.ret true) (.zd (zi 1 2)<|T.bind (bc b F') fun r2=>.ret (!r2)))
     (.ite ((k==6)&&true) (.zd (zi 1 2)<|T.bind (bc b F') fun r3=>.ret (!r3)) (.ret true)):T Bool).run=some (!((k==5&&(oq a F'&&oq b F'))||(k==6&&oq b F')))
    rw[Bool.and_true,Bool.and_true]
    by_cases h5:k=5
    ·subst h5
     rw[za (by rfl),zc ⟨by omega,by omega⟩,z6 ra]
     cases oq a F' with
     | false=>rfl
     | true =>
      rw[z8 (by rfl),zc ⟨by omega,by omega⟩,z6 rb,z7]
      cases oq b F'<;>rfl
    ·have k5:(k==5)=false:=by simpa using h5
     rw[k5,zr]
     by_cases h6:k=6
     ·subst h6
      rw[za (by rfl),zc ⟨by omega,by omega⟩,z6 rb,z7]
      cases oq b F'<;>rfl
     ·have k6:(k==6)=false:=by simpa using h6
      rw[k6]; rfl
theorem ru(e:Expr)(hb:bkE e≤1000000000):(nR e).run=some ((wv e:Nat):Int):=by
 unfold nR
 refine y4 (fun x:Expr=>bkE x≤1000000000) (fun x=>bkE x) (fun x=>((wv x:Nat):Int)) (fun x hx g hg => ?_) (x:=e) hb
 have hk:=gB x
 have DP:=iA x.kids
 have ndb:∀ (l:List Expr),vY l≤bkEs l:=by
  have both:∀ n,(∀ e:Expr,bkE e≤n→wv e≤bkE e):=by
   intro n
   induction n using Nat.strongRecOn with
   | _ n ih =>
    intro e he
    cases e with | mk k m s l =>
    have hl:∀ l':List Expr,bkEs l'<n→vY l'≤bkEs l':=by
     intro l'
     induction l' with
     | nil=>intro _; exact Nat.le_refl _
     | cons y r ihr =>
      intro h
      unfold bkEs at h ⊢
      unfold vY
      have h1:=ih (bkE y) (by omega) y (Nat.le_refl _)
      have h2:=ihr (by omega)
      omega
    have h3:bkEs l<bkE (.mk k m s l):=gB (.mk k m s l)
    have:=hl l (by omega)
    unfold wv
    omega
  intro l
  induction l with
  | nil=>exact Nat.le_refl _
  | cons y r ihr =>
   unfold vY bkEs
   have:=both (bkE y) y (Nat.le_refl _)
   omega
 have loop:(Zc (fun y0=>g y0) x (1,0)).run=some ((1+vY x.kids:Nat):Int):=by
  have key:=mJ (r:=yA (fun y0=>g y0) x) x.kids (zb .expr) (fun(b:Nat) i=>(((b:Nat):Int),i)) (fun b r=>b+vY r≤1+vY x.kids∧∀ y∈r,y∈x.kids) (fun r b=>((b+vY r:Nat):Int)) ?_ ?_ (b:=1) ⟨Nat.le_refl _,fun y hy=>hy⟩
  ·exact key
  ·rintro b y ys i h0 hi hy ⟨h1,h2⟩
   have hm:=gN (h2 y List.mem_cons_self)
   have hr:=hg y (by omega) (by omega)
   have Nz:=ndb x.kids
   have e1:vY (y::ys)=wv y+vY ys:=rfl
   rw[e1]at h1
   refine .inl ⟨b+wv y,?_,⟨by omega,fun z hz=>h2 z (List.mem_cons_of_mem _ hz)⟩,by rw[e1,Nat.add_assoc]⟩
   unfold yA
   dsimp only
   rw[za (decide_eq_true hi),zc ⟨h0,hi⟩,hy,z6 hr,z7,zN (x:=i+1) (by omega) (by omega),zN (by omega) (by omega)]
   rfl
  ·rintro b _
   unfold yA
   dsimp only
   rw[z8 (xi _),z7]; rfl
 unfold eT
 rw[z6 loop,z7]
 cases x with | mk k n s kids=>rfl
theorem WM(e:Expr)(h:allOk e)(hb:bkE e≤1000000)(hn:wv e≤256):(yV e).run=some (vf 0 e):=by
 unfold yV
 have h1:(mD e 1).run=some (vf 0 e):=Ls e 0 h (by omega) (by omega)
 rw[z6 h1]
 cases vf 0 e with
 | false=>rfl
 | true=>rw[zy,z6 (ru e (by omega)),z7,decide_eq_true (by omega)]
def qL(k:Int):Int:=if k=3∨k=4 then 1 else if k=5∨k=6 then 2 else if k=7 then 3 else 4
def Ca(k:Int):zf:=if k=3 then[32,43,32]else if k=4 then[32,45,32]else if k=5 then[32,42,32]else if k=6 then[32,47,32]else[]
def oe(b:Bool)(s:zf):zf:=if b=true then[40]++s++[41]else s
def XJ(k:Int):List (Int×zf)→zf
 | [a]=>[45]++oe (decide (a.1<3)) a.2
 | [a,b]=>oe (decide (a.1<qL k)) a.2++Ca k++oe (decide (b.1<qL k+1)) b.2
 | _=>[]
mutual
def prE:Expr→zf
 | .mk k n s l=>if k=1 then(xO (norm n).1 (nv (norm n).2.1) (nv (norm n).2.2.1) 0 61).1 else if k=2 then s else XJ k (prL l)
def prL:List Expr→List (Int×zf)
 | []=>[]
 | e::r=>(qL e.kind,prE e)::prL r
end
theorem bT(b:Bool)(s:zf):(oe b s).length≤s.length+2:=by unfold oe; split<;>simp<;>omega
theorem Yy(k:Int):(Ca k).length≤3:=by unfold Ca; (repeat' split)<;>simp
theorem NQ(n:Rat)(h:VG n):(xO (norm n).1 (nv (norm n).2.1) (nv (norm n).2.2.1) 0 61).1.length≤6000:=by
 have hn:=oA (k:=100) (by omega) h
 have hd:=JV n.1 (nv n.2.1) (nv n.2.2.1)
 have hd:nv (norm n).2.2.1≠0:=hd
 rcases hx:xO (norm n).1 (nv (norm n).2.1) (nv (norm n).2.2.1) 0 61 with⟨s,b⟩
 cases b with
 | true =>
  obtain⟨j,h1,h2,h3,rfl⟩:=Gi _ _ _ hd 61 0 s hx
  have l1:=zU hn.1
  have l2:=hn.2.2.1
  have l3:=Xh j
  have l4:=xe (nv (norm n).2.1) (10 ^ j)
  have l5:=hJ (Nat.div_le_self (nv (norm n).2.1*10 ^ j) (nv (norm n).2.2.1))
  have l6:=ic (nv (norm n).2.1*10 ^ j / nv (norm n).2.2.1) 162 (by omega)
  have l7:(Ld (norm n).1).length≤1:=by unfold Ld; split<;>simp
  dsimp only
  rw[List.length_append]
  by_cases hj:j=0
  ·subst hj
   unfold On
   rw[if_pos rfl]
   omega
  ·obtain⟨w,p,e,_,_,_,hp,_,hw⟩:=Nu (pr (nv (norm n).2.1*10 ^ j / nv (norm n).2.2.1)) j hj (z0y _).1
   rw[e,List.length_append,List.length_cons]
   omega
 | false =>
  have:∀ (f k:Nat) (s:zf),xO (norm n).1 (nv (norm n).2.1) (nv (norm n).2.2.1) k f=(s,false)→s=[]:=by
   intro f
   induction f with
   | zero=>intro k s h; unfold xO at h; cases h; rfl
   | succ f ih =>
    intro k s h
    unfold xO at h
    split at h
    ·cases h
    ·exact ih _ _ h
  rw[this 61 0 s hx]; simp
theorem QX{d:Nat}{k:Int}{n:Rat}{s:zf}{l:List Expr}(h:vf d (.mk k n s l)=true):((l.length:Int)=Va k)∧kQ (d+1) l=true:=by
 have h:(decide (d<32)&&(dq (.mk k n s l)&&kQ (d+1) l))=true:=h
 simp only[Bool.and_eq_true]at h
 obtain⟨_,h1,h2⟩:=h
 unfold dq at h1
 simp only[Bool.and_eq_true]at h1
 exact⟨eq_of_beq h1.1,h2⟩
theorem lg:∀ (m:Nat) (e:Expr) (d:Nat),wv e≤m→vf d e=true→allOk e→(prE e).length≤2000*szE e:=by
 intro m
 induction m with
 | zero=>intro e d hm; cases e; unfold wv at hm; omega
 | succ m ih =>
  intro e d hm ho ha
  cases e with | mk k n s l =>
  obtain⟨hk,hl⟩:=QX ho
  obtain⟨hn,pN⟩:=ha
  have Nz:wv (.mk k n s l)=1+vY l:=rfl
  have jn:szE (.mk k n s l)=3+s.length+8*n.2.1.length+8*n.2.2.1.length+szEs l:=rfl
  rw[Nz]at hm
  rw[jn]
  show(if k=1 then(xO (norm n).1 (nv (norm n).2.1) (nv (norm n).2.2.1) 0 61).1 else if k=2 then s else XJ k (prL l)).length≤_
  by_cases h1:k=1
  ·rw[if_pos h1]; have:=NQ n hn; omega
  ·rw[if_neg h1]
   by_cases h2:k=2
   ·rw[if_pos h2]; omega
   ·rw[if_neg h2]
    match l,hl,pN,hm with
    | [],_,_,_=>show(XJ k []).length≤_; unfold XJ; simp
    | [a],hl,pN,hm =>
     have BO:vf (d+1) a=true:=by
      have:(vf (d+1) a&&kQ (d+1) [])=true:=hl
      simp only[Bool.and_eq_true]at this; exact this.1
     have:=ih a (d+1) (by have:vY [a]=wv a+0:=rfl; omega) BO pN.1
     have e1:szEs [a]=szE a+0:=rfl
     have hp:=bT (decide (qL a.kind<3)) (prE a)
     show([45]++oe (decide (qL a.kind<3)) (prE a)).length≤_
     rw[List.length_append,List.length_singleton,e1]; omega
    | [a,b],hl,pN,hm =>
     have YO:vf (d+1) a=true∧vf (d+1) b=true:=by
      have:(vf (d+1) a&&(vf (d+1) b&&kQ (d+1) []))=true:=hl
      simp only[Bool.and_eq_true]at this; exact⟨this.1,this.2.1⟩
     have e0:vY [a,b]=wv a+(wv b+0):=rfl
     have h3:=ih a (d+1) (by omega) YO.1 pN.1
     have h4:=ih b (d+1) (by omega) YO.2 pN.2.1
     have e1:szEs [a,b]=szE a+(szE b+0):=rfl
     have hp:=bT (decide (qL a.kind<qL k)) (prE a)
     have hq:=bT (decide (qL b.kind<qL k+1)) (prE b)
     have hm':=Yy k
     show(oe (decide (qL a.kind<qL k)) (prE a)++Ca k++oe (decide (qL b.kind<qL k+1)) (prE b)).length≤_
     rw[List.length_append,List.length_append,e1]; omega
    | a::b::c::r,_,_,_=>show(XJ k _).length≤_; unfold prL prL prL XJ; simp
theorem YU(e:Expr):(cm e).run=some (qL e.kind):=by
 unfold cm qL
 generalize e.kind=k
 by_cases h3:k=3
 ·subst h3; rfl
 by_cases h4:k=4
 ·subst h4; rfl
 by_cases h5:k=5
 ·subst h5; rfl
 by_cases h6:k=6
 ·subst h6; rfl
 by_cases h7:k=7
 ·subst h7; rfl
 ·simp[h3,h4,h5,h6,h7]
theorem z0C(k:Int):(rO k).run=some (qL k):=by
 unfold rO qL
 by_cases h3:k=3
 ·subst h3; rfl
 by_cases h4:k=4
 ·subst h4; rfl
 by_cases h5:k=5
 ·subst h5; rfl
 by_cases h6:k=6
 ·subst h6; rfl
 by_cases h7:k=7
 ·subst h7; rfl
 ·simp[h3,h4,h5,h6,h7]
theorem ZS(g:Expr→T zf)(e:Expr)(least:Int)(t:zf)(hg:(g e).run=some t)(hl:t.length≤1000000000000):(gn (fun y0=>g y0) e least).run=some (oe (decide (qL e.kind<least)) t):=by
 unfold gn oe
 rw[z6 (YU e)]
 cases decide (qL e.kind<least)with
 | true=>rw[zy,z6 hg,zD _ (by simp; omega),zD _ (by simp[ct]; omega),z7,if_pos rfl]; rfl
 | false=>rw[zr,z6 hg,z7,if_neg (by simp)]
theorem B4{k:Int}{l:List Expr}(hk:(l.length:Int)=Va k)(h1:k≠1)(h2:k≠2):(k=7∧∃ a,l=[a])∨((k=3∨k=4∨k=5∨k=6)∧∃ a b,l=[a,b]):=by
 unfold Va at hk
 rw[if_neg (by rintro(h | h); exact h1 h; exact h2 h)]at hk
 by_cases h7:k=7
 ·rw[if_pos h7]at hk
  match l,hk with
  | [a],_=>exact .inl ⟨h7,a,rfl⟩
  | [],hk=>simp at hk
  | _::_::_,hk=>simp at hk; omega
 ·rw[if_neg h7]at hk
  by_cases h:k=3∨k=4∨k=5∨k=6
  ·rw[if_pos h]at hk
   match l,hk with
   | [a,b],_=>exact .inr ⟨h,a,b,rfl⟩
   | [],hk=>simp at hk
   | [_],hk=>simp at hk
   | _::_::_::_,hk=>simp at hk; omega
  ·rw[if_neg h]at hk; omega
theorem Mw(e:Expr)(d:Nat)(ho:vf d e=true)(ha:allOk e)(hs:szE e≤1000000):(oN e).run=some (prE e):=by
 unfold oN
 refine y4 (fun x:Expr=>(∃ d,vf d x=true)∧allOk x∧szE x≤1000000) (fun x=>wv x) (fun x=>prE x) (fun x hx g hg => ?_) (x:=e) ⟨⟨d,ho⟩,ha,hs⟩
 obtain⟨⟨d,ho⟩,ha,hs⟩:=hx
 cases x with | mk k n s l =>
 obtain⟨hk,hl⟩:=QX ho
 obtain⟨hn,pN⟩:=ha
 have Nz:wv (.mk k n s l)=1+vY l:=rfl
 have jn:szE (.mk k n s l)=3+s.length+8*n.2.1.length+8*n.2.2.1.length+szEs l:=rfl
 have hE:=Z5 n (xR hn (by omega))
 have z6T:prE (.mk k n s l)=if k=1 then(xO (norm n).1 (nv (norm n).2.1) (nv (norm n).2.2.1) 0 61).1 else if k=2 then s else XJ k (prL l):=rfl
 rw[z6T]
 unfold eY
 rw[show Expr.kind (.mk k n s l)=k from rfl,show Expr.kids (.mk k n s l)=l from rfl,show Expr.num (.mk k n s l)=n from rfl,show Expr.name (.mk k n s l)=s from rfl]
 have Sc:=YU (.mk k n s l)
 rw[show Expr.kind (.mk k n s l)=k from rfl]at Sc
 by_cases h1:k=1
 ·rw[if_pos h1]
  refine(z6 (a:=.inr (xO (norm n).1 (nv (norm n).2.1) (nv (norm n).2.2.1) 0 61).1) ?_ _).trans rfl
  rw[za (by simpa using h1),z6 hE,z7]
 have k1:(k==1)=false:=by simpa using h1
 by_cases h2:k=2
 ·rw[if_neg h1,if_pos h2]
  refine(z6 (a:=.inr s) ?_ _).trans rfl
  rw[z8 k1,za (by simpa using h2),z7]
 have k2:(k==2)=false:=by simpa using h2
 rw[if_neg h1,if_neg h2]
 rcases B4 hk h1 h2 with⟨h7,a,rfl⟩ | ⟨h36,a,b,rfl⟩
 ·have BO:vf (d+1) a=true:=by
   have:(vf (d+1) a&&kQ (d+1) [])=true:=hl
   simp only[Bool.and_eq_true]at this; exact this.1
  have e0:vY [a]=wv a+0:=rfl
  have e1:szEs [a]=szE a+0:=rfl
  have hr:=hg a ⟨⟨_,BO⟩,pN.1,by omega⟩ (by omega)
  have hlen:=lg (wv a) a (d+1) (Nat.le_refl _) BO pN.1
  have hp:=ZS g a 3 (prE a) hr (by omega)
  have XI:=bT (decide (qL a.kind<3)) (prE a)
  refine(z6 (a:=.inr (XJ k (prL [a]))) ?_ _).trans rfl
  rw[z8 k1,z8 k2,za (by simpa using h7),zc ⟨by omega,by simp⟩,show nth [a] (0:Int) (zb .expr)=a from rfl,z6 hp,zD _ (by simp; omega),z7]
  rfl
 ·have YO:vf (d+1) a=true∧vf (d+1) b=true:=by
   have:(vf (d+1) a&&(vf (d+1) b&&kQ (d+1) []))=true:=hl
   simp only[Bool.and_eq_true]at this; exact⟨this.1,this.2.1⟩
  have e0:vY [a,b]=wv a+(wv b+0):=rfl
  have e1:szEs [a,b]=szE a+(szE b+0):=rfl
  have ra:=hg a ⟨⟨_,YO.1⟩,pN.1,by omega⟩ (by omega)
  have rb:=hg b ⟨⟨_,YO.2⟩,pN.2.1,by omega⟩ (by omega)
  have la:=lg (wv a) a (d+1) (Nat.le_refl _) YO.1 pN.1
  have lb:=lg (wv b) b (d+1) (Nat.le_refl _) YO.2 pN.2.1
  have DG:zt (qL k+1)=qL k+1:=by
   have:qL k=1∨qL k=2∨qL k=3∨qL k=4:=by unfold qL; (repeat' split)<;>simp
   rw[zN (by omega) (by omega)]
  have pa:=ZS g a (qL k) (prE a) ra (by omega)
  have pb:=ZS g b (qL k+1) (prE b) rb (by omega)
  have qa:=bT (decide (qL a.kind<qL k)) (prE a)
  have qb:=bT (decide (qL b.kind<qL k+1)) (prE b)
  have hm:=Yy k
  have k7:(k==7)=false:=by rw[beq_eq_false_iff_ne]; omega
  refine(z6 (a:=.inl (Ca k)) ?_ _).trans ?_
  ·rw[z8 k1,z8 k2,z8 k7]
   rcases h36 with rfl | rfl | rfl | rfl<;>rfl
  ·rw[Sum.elim_inl,zc ⟨by omega,by simp⟩,z6 Sc,show nth [a,b] (0:Int) (zb .expr)=a from rfl,z6 pa,zD _ (by omega),zc ⟨by omega,by simp⟩,z6 Sc,DG,show nth [a,b] (1:Int) (zb .expr)=b from rfl,z6 pb,zD _ (by simp[ct]; omega),z7]
   rfl
theorem Sx(e:Expr)(asks:Int)(d:Nat)(ho:vf d e=true)(ha:allOk e)(hs:szE e≤100000):(sY e asks).run=some (oe (decide (qL e.kind<asks)) (prE e)):=by
 unfold sY
 refine y4 (fun x:Expr×Int=>(∃ d,vf d x.1=true)∧allOk x.1∧szE x.1≤100000) (fun x=>wv x.1) (fun x=>oe (decide (qL x.1.kind<x.2)) (prE x.1)) (fun x hx g hg => ?_) (x:=(e,asks)) ⟨⟨d,ho⟩,ha,hs⟩
 obtain⟨x,q⟩:=x
 obtain⟨⟨d,ho⟩,ha,hs⟩:=hx
 dsimp only at ho ha hs
 have zh2:=lg (wv x) x d (Nat.le_refl _) ho ha
 cases x with | mk k n s l =>
 obtain⟨hk,hl⟩:=QX ho
 obtain⟨hn,pN⟩:=ha
 have Nz:wv (.mk k n s l)=1+vY l:=rfl
 have jn:szE (.mk k n s l)=3+s.length+8*n.2.1.length+8*n.2.2.1.length+szEs l:=rfl
 have hE:=sb n (xR hn (by omega))
 have z6T:prE (.mk k n s l)=if k=1 then(xO (norm n).1 (nv (norm n).2.1) (nv (norm n).2.2.1) 0 61).1 else if k=2 then s else XJ k (prL l):=rfl
 unfold iT
 rw[show Expr.kind (.mk k n s l)=k from rfl,show Expr.kids (.mk k n s l)=l from rfl,show Expr.num (.mk k n s l)=n from rfl,show Expr.name (.mk k n s l)=s from rfl]
 have fin:∀ t:T zf,t.run=some (prE (.mk k n s l))→(T.bind t fun s1=>T.bind (rO k) fun S4=>.ite (decide (S4<q))
   (.zd (((List.length ([40]:zf))+(List.length s1))≤(4611686018427387904:Nat))<|.zd (((List.length (cat ([40]:zf) s1))+(List.length ([41]:zf)))≤(4611686018427387904:Nat))<|.ret (cat (cat ([40]:zf) s1) ([41]:zf))) (.ret s1):T zf).run=some (oe (decide (qL k<q)) (prE (.mk k n s l))):=by
  intro t ht
  rw[z6 ht,z6 (z0C k)]
  cases decide (qL k<q)with
  | true=>rw[zy,zD _ (by simp; omega),zD _ (by simp[ct]; omega),z7]; rfl
  | false=>rw[zr,z7]; rfl
 refine fin _ ?_
 rw[z6T]
 by_cases h1:k=1
 ·rw[if_pos h1,za (by simpa using h1),z6 hE,z7]
 have k1:(k==1)=false:=by simpa using h1
 by_cases h2:k=2
 ·rw[if_neg h1,if_pos h2,z8 k1,za (by simpa using h2),z7]
 have k2:(k==2)=false:=by simpa using h2
 rw[if_neg h1,if_neg h2]
 rcases B4 hk h1 h2 with⟨h7,a,rfl⟩ | ⟨h36,a,b,rfl⟩
 ·have BO:vf (d+1) a=true:=by
   have:(vf (d+1) a&&kQ (d+1) [])=true:=hl
   simp only[Bool.and_eq_true]at this; exact this.1
  have e0:vY [a]=wv a+0:=rfl
  have e1:szEs [a]=szE a+0:=rfl
  have hr:=hg (a,3) ⟨⟨_,BO⟩,pN.1,by dsimp only; omega⟩ (by dsimp only; omega)
  have hlen:=lg (wv a) a (d+1) (Nat.le_refl _) BO pN.1
  have XI:=bT (decide (qL a.kind<3)) (prE a)
  dsimp only at hr
  rw[z8 k1,z8 k2,za (by simpa using h7),zc ⟨by omega,by simp⟩,show nth [a] (0:Int) (zb .expr)=a from rfl,z6 hr,zD _ (by simp; omega),z7]
  rfl
 ·have YO:vf (d+1) a=true∧vf (d+1) b=true:=by
   have:(vf (d+1) a&&(vf (d+1) b&&kQ (d+1) []))=true:=hl
   simp only[Bool.and_eq_true]at this; exact⟨this.1,this.2.1⟩
  have e0:vY [a,b]=wv a+(wv b+0):=rfl
  have e1:szEs [a,b]=szE a+(szE b+0):=rfl
  have ra:∀ q:Int,(g (a,q)).run=some (oe (decide (qL a.kind<q)) (prE a)):=fun q=>hg (a,q) ⟨⟨_,YO.1⟩,pN.1,by dsimp only; omega⟩ (by dsimp only; omega)
  have rb:∀ q:Int,(g (b,q)).run=some (oe (decide (qL b.kind<q)) (prE b)):=fun q=>hg (b,q) ⟨⟨_,YO.2⟩,pN.2.1,by dsimp only; omega⟩ (by dsimp only; omega)
  have la:=lg (wv a) a (d+1) (Nat.le_refl _) YO.1 pN.1
  have lb:=lg (wv b) b (d+1) (Nat.le_refl _) YO.2 pN.2.1
  have qa:∀ q:Int,(oe (decide (qL a.kind<q)) (prE a)).length≤1000000000:=fun q=>by have:=bT (decide (qL a.kind<q)) (prE a); omega
  have qb:∀ q:Int,(oe (decide (qL b.kind<q)) (prE b)).length≤1000000000:=fun q=>by have:=bT (decide (qL b.kind<q)) (prE b); omega
  have k7:(k==7)=false:=by rw[beq_eq_false_iff_ne]; omega
  have two:∀ (m:zf) (p q:Int),m.length≤3→(.zd (zi (0:Int) (List.length [a,b]))<|T.bind (g (nth [a,b] (0:Int) (zb .expr),p)) fun r2=>.zd (((List.length r2)+(List.length m))≤(4611686018427387904:Nat))<|.zd (zi (1:Int) (List.length [a,b])) <|
    T.bind (g (nth [a,b] (1:Int) (zb .expr),q)) fun r3=>.zd (((List.length (cat r2 m))+(List.length r3))≤(4611686018427387904:Nat))<|.ret (cat (cat r2 m) r3):T zf).run=some (oe (decide (qL a.kind<p)) (prE a)++m++oe (decide (qL b.kind<q)) (prE b)):=by
   intro m p q hm
   have h3:=qa p
   have h4:=qb q
   rw[zc ⟨by omega,by simp⟩,show nth [a,b] (0:Int) (zb .expr)=a from rfl,z6 (ra p),zD _ (by omega),zc ⟨by omega,by simp⟩,show nth [a,b] (1:Int) (zb .expr)=b from rfl,z6 (rb q),zD _ (by simp[ct]; omega),z7]
   rfl
  rw[z8 k1,z8 k2,z8 k7]
  rcases h36 with rfl | rfl | rfl | rfl
  ·rw[za (by rfl)]; exact two [32,43,32] 1 2 (by simp)
  ·rw[z8 (by rfl),za (by rfl)]; exact two [32,45,32] 1 2 (by simp)
  ·rw[z8 (by rfl),z8 (by rfl),za (by rfl)]; exact two [32,42,32] 2 3 (by simp)
  ·rw[z8 (by rfl),z8 (by rfl),z8 (by rfl),za (by rfl)]; exact two [32,47,32] 2 3 (by simp)
theorem NU(e:Expr)(ho:vf 0 e=true)(ha:allOk e)(hs:szE e≤700):(cx e).run=some (prE e):=by
 have hn:=HR e
 unfold cx
 rw[z6 (R7 e ha (by omega)),ho,z8 (by rfl),z6 (Mw e 0 ho ha (by omega)),z7]
theorem JE(e:Expr)(ho:vf 0 e=true)(ha:allOk e)(hs:szE e≤700)(hb:bkE e≤1000000):(kG e).run=some (prE e):=by
 have hn:=HR e
 unfold kG
 rw[z6 (WM e ha hb (by omega)),ho,z8 (by rfl),z6 (Sx e 1 0 ho ha (by omega)),z7]
 have:decide (qL e.kind<1)=false:=by
  refine decide_eq_false ?_
  unfold qL
  (repeat' split)<;>omega
 rw[this]; rfl
inductive PR where
 | no
 | er (k:Int) (bad r:zf) (d:Nat) (l:Bool)
 | ok (e:Expr) (r:zf) (l:Bool)
def PR.bind:PR→(Expr→zf→Bool→PR)→PR
 | .no,_=>.no
 | .er k b r d l,_=>.er k b r d l
 | .ok e r l,f=>f e r l
def z3D(k:Int)(l:List Expr):Expr:=.mk k eC [] l
def RI(t:zf):Rat:=match z14 t with | some (n,d)=>kV (List.isPrefixOf [45] t) n d | none=>eC
mutual
def iO(deep:Nat)(left:Int):Expr→Bool×Int
 | .mk k n s l=>if left-1<0∨(decide (deep<32)&&dq (.mk k n s l))=false then(false,left-1)else gq (deep+1) (left-1) l
def gq(deep:Nat)(left:Int):List Expr→Bool×Int
 | []=>(true,left)
 | e::r=>if(iO deep left e).1=true then gq deep (iO deep left e).2 r else(false,(iO deep left e).2)
end
mutual
theorem He:∀ (e:Expr) (d:Nat) (left:Int),0≤left→(iO d left e).1=(vf d e&&decide ((wv e:Int)≤left))∧((iO d left e).1=true→(iO d left e).2=left-wv e)∧(iO d left e).2≤left ∧ -1≤(iO d left e).2
 | .mk k n s l,d,left,h=>by
  have e1:vf d (.mk k n s l)=((decide (d<32)&&dq (.mk k n s l))&&kQ (d+1) l):=by unfold vf; rw[Bool.and_assoc]
  have e2:wv (.mk k n s l)=1+vY l:=rfl
  unfold iO
  rw[e1,e2]
  by_cases c:left-1<0
  ·rw[if_pos (.inl c)]
   refine⟨?_,fun h=>by simp at h,by omega,by dsimp only; omega⟩
   dsimp only
   rw[show decide (((1+vY l:Nat):Int)≤left)=false from decide_eq_false (by omega),Bool.and_false]
  ·cases q:(decide (d<32)&&dq (.mk k n s l))with
   | false=>rw[if_pos (.inr rfl)]; exact⟨rfl,fun h=>by simp at h,by dsimp only; omega,by dsimp only; omega⟩
   | true =>
    rw[if_neg (by rintro(h | h); exact c h; simp at h),Bool.true_and]
    obtain⟨h1,h2,h3,h4⟩:=CX l (d+1) (left-1) (by omega)
    refine⟨?_,fun h=>by rw[h2 h]; omega,by omega,by omega⟩
    rw[h1]
    congr 1
    exact decide_eq_decide.2 (by omega)
theorem CX:∀ (l:List Expr) (d:Nat) (left:Int),0≤left→(gq d left l).1=(kQ d l&&decide ((vY l:Int)≤left))∧((gq d left l).1=true→(gq d left l).2=left-vY l)∧(gq d left l).2≤left ∧ -1≤(gq d left l).2
 | [],d,left,h=>by
  refine⟨?_,fun _ => ?_,Int.le_refl _,?_⟩
  ·show true=(true&&decide (((0:Nat):Int)≤left)); simp; omega
  ·show left=left-((0:Nat):Int); omega
  ·show -1≤left; omega
 | e::r,d,left,h=>by
  have e1:kQ d (e::r)=(vf d e&&kQ d r):=rfl
  have e2:vY (e::r)=wv e+vY r:=rfl
  obtain⟨h1,h2,h3,h4⟩:=He e d left h
  unfold gq
  rw[e1,e2]
  cases q:(iO d left e).1 with
  | false =>
   rw[if_neg (by simp)]
   refine⟨?_,fun h=>by simp at h,h3,h4⟩
   dsimp only
   rw[q]at h1
   cases ho:vf d e with
   | false=>rfl
   | true =>
    rw[ho,Bool.true_and]at h1
    have:=of_decide_eq_false h1.symm
    rw[show decide (((wv e+vY r:Nat):Int)≤left)=false from decide_eq_false (by omega),Bool.and_false]
  | true =>
   rw[if_pos rfl]
   have hq:=h2 q
   rw[q]at h1
   have h1:=h1.symm
   rw[Bool.and_eq_true,decide_eq_true_eq]at h1
   obtain⟨g1,g2,g3,g4⟩:=CX r d (iO d left e).2 (by omega)
   refine⟨?_,fun h=>by rw[g2 h]; omega,by omega,by omega⟩
   rw[g1,h1.1,Bool.true_and]
   congr 1
   exact decide_eq_decide.2 (by omega)
end
theorem Eu(e:Expr)(deep:Nat)(left:Int)(h:allOk e)(hl:wv e≤1000000)(hl0:0≤left)(iL:left≤100000)(hd:deep≤32):(jK e (deep:Int) left).run=some (iO deep left e):=by
 unfold jK
 refine y4 (fun x:Expr×Int×Int=>allOk x.1∧0≤x.2.1∧x.2.1≤32∧wv x.1≤1000000∧0≤x.2.2∧x.2.2≤100000) (fun x=>wv x.1) (fun x=>iO x.2.1.toNat x.2.2 x.1) (fun x hx g hg => ?_) (x:=(e,(deep:Int),left)) ⟨h,by dsimp only; omega,by dsimp only; omega,by dsimp only; omega,by dsimp only; omega,by dsimp only; omega⟩
 obtain⟨e,d,L⟩:=x
 obtain⟨ha,DX,ME,hn,zgM,hlf⟩:=hx
 dsimp only at ha DX ME hn zgM hlf
 obtain⟨D,rfl⟩:∃ D:Nat,d=(D:Int):=⟨d.toNat,by omega⟩
 cases e with | mk k n s kids =>
 obtain⟨Fi,BK⟩:=ha
 have Nz:wv (.mk k n s kids)=1+vY kids:=by unfold wv; rfl
 rw[Nz]at hn
 have ew:zt (L-1)=L-1:=zN (by omega) (by omega)
 have Ts:=K6 (.mk k n s kids) Fi
 simp only[Int.toNat_natCast]
 unfold bB
 rw[ew]
 have head:((.ite (decide ((L-1)<(0:Int))) (.ret (true,L-1)) (.ite (decide ((32:Int)≤(D:Int))) (.ret (true,L-1)) (T.bind (gy (.mk k n s kids)) fun r=>.ret ((!r),L-1)))):T (Bool×Int)).run =
   some (decide (L-1<0∨(decide (D<32)&&dq (.mk k n s kids))=false),L-1):=by
  by_cases c0:L-1<0
  ·rw[za (decide_eq_true c0),z7,decide_eq_true (.inl c0)]
  ·rw[z8 (decide_eq_false c0)]
   by_cases c:D<32
   ·rw[z8 (decide_eq_false (by omega)),z6 Ts,z7,decide_eq_true c,Bool.true_and]
    cases dq (.mk k n s kids)<;>simp[c0]
   ·rw[za (decide_eq_true (by omega)),z7,decide_eq_false c,Bool.false_and]
    simp
 rw[z6 head]
 dsimp only
 unfold iO
 by_cases q:L-1<0∨(decide (D<32)&&dq (.mk k n s kids))=false
 ·rw[za (decide_eq_true q),z7,if_pos q]
 ·rw[z8 (decide_eq_false q),if_neg q]
  have q1:¬ L-1<0:=fun h=>q (.inl h)
  have hD:D<32:=by
   by_cases c:D<32
   ·exact c
   ·exact absurd (.inr (by rw[decide_eq_false c]; rfl)) q
  have ed:zt ((D:Int)+1)=((D+1:Nat):Int):=by rw[zN (by omega) (by omega)]; omega
  have loop:∃ z,(zZ (fun y0 y1 y2=>g (y0,y1,y2)) kids (kids.length:Int) (((D:Int),()),((0:Int),L-1))).run=some z ∧
    (((gq (D+1) (L-1) kids).1=true∧z=.inl (gq (D+1) (L-1) kids).2)∨((gq (D+1) (L-1) kids).1=false∧∃ i:Int,0≤i∧z=.inr (i,(gq (D+1) (L-1) kids).2))):=by
   refine T.xh (r:=zQ (fun y0 y1 y2=>g (y0,y1,y2)) kids (kids.length:Int)) (fun st:(Int×Unit)×Int×Int=>∃ (j:Nat) (B:Int),st=(((D:Int),()),(j:Int),B)∧j≤kids.length∧0≤B∧B≤100000 ∧
    gq (D+1) B (kids.drop j)=gq (D+1) (L-1) kids) (fun st=>kids.length-st.2.1.toNat) _ (fun st xM => ?_) ⟨0,L-1,rfl,by omega,by omega,by omega,by rw[List.drop_zero]⟩
   obtain⟨j,B,rfl,hj,hB0,hB,HJ⟩:=xM
   by_cases c:j<kids.length
   ·have hdr:kids.drop j=kids[j]::kids.drop (j+1):=List.drop_eq_getElem_cons c
    rw[hdr]at HJ
    rw[show gq (D+1) B (kids[j]::kids.drop (j+1))=if(iO (D+1) B kids[j]).1=true then gq (D+1) (iO (D+1) B kids[j]).2 (kids.drop (j+1))else(false,(iO (D+1) B kids[j]).2)from rfl]at HJ
    have VZ:=Q1 BK _ (List.getElem_mem c)
    have RL:=He kids[j] (D+1) B hB0
    have EX:wv kids[j]<1+vY kids:=by have:=Qm (List.getElem_mem c); omega
    have GM:=hg (kids[j],((D+1:Nat):Int),B) ⟨VZ,by dsimp only; omega,by dsimp only; omega,by dsimp only; omega,by dsimp only; omega,by dsimp only; omega⟩ (by dsimp only; rw[Nz]; exact EX)
    dsimp only at GM
    simp only[Int.toNat_natCast]at GM
    have hf:(jr (fun y0 y1 y2=>g (y0,y1,y2)) kids[j] (D:Int) B).run=some (!(iO (D+1) B kids[j]).1,(iO (D+1) B kids[j]).2):=by
     unfold jr
     rw[ed,z6 GM]; rfl
    unfold zQ
    dsimp only
    rw[za (qK c),zc (zm c),qZ c,z6 hf]
    dsimp only
    cases hk:(iO (D+1) B kids[j]).1 with
    | true =>
     left
     rw[hk,if_pos rfl]at HJ
     rw[z8 (by rfl),z7]
     have hlen:=XR kids
     rw[vr j _ c (by omega)]
     have hb:=RL.1
     rw[hk]at hb
     have hb:=hb.symm
     rw[Bool.and_eq_true,decide_eq_true_eq]at hb
     have h2:=RL.2.1 hk
     refine⟨_,rfl,⟨j+1,(iO (D+1) B kids[j]).2,rfl,c,by omega,by omega,HJ⟩,?_⟩
     simp only[Int.toNat_natCast]
     omega
    | false =>
     right
     rw[hk,if_neg (by simp)]at HJ
     rw[za (by rfl),z7]
     exact⟨_,rfl,.inr ⟨by rw[← HJ],(j:Int),by omega,by rw[← HJ]⟩⟩
   ·right
    have hj2:j=kids.length:=by omega
    subst hj2
    rw[List.drop_length]at HJ
    unfold zQ
    dsimp only
    rw[z8 (xi _),z7]
    exact⟨_,rfl,.inl ⟨by rw[← HJ]; rfl,by rw[← HJ]; rfl⟩⟩
  obtain⟨z,hz,hc⟩:=loop
  have hcf:(qj (fun y0 y1 y2=>g (y0,y1,y2)) kids ((D:Int),()) (L-1)).run=some (!(gq (D+1) (L-1) kids).1,(gq (D+1) (L-1) kids).2):=by
   unfold qj qU
   rcases hc with⟨ho,rfl⟩ | ⟨ho,i,hi,rfl⟩
   ·have:((T.bind (zZ (fun y0 y1 y2=>g (y0,y1,y2)) kids (kids.length:Int) (((D:Int),()),((0:Int),L-1)))<|Sum.elim (fun v2=>.ret ((-1:Int),v2)) (fun(x2,v3)=>.ret (x2,v3))):T (Int×Int)).run=some (-1,(gq (D+1) (L-1) kids).2):=by
     rw[z6 hz]; rfl
    rw[z6 this,ho]; rfl
   ·have:((T.bind (zZ (fun y0 y1 y2=>g (y0,y1,y2)) kids (kids.length:Int) (((D:Int),()),((0:Int),L-1)))<|Sum.elim (fun v2=>.ret ((-1:Int),v2)) (fun(x2,v3)=>.ret (x2,v3))):T (Int×Int)).run=some (i,(gq (D+1) (L-1) kids).2):=by
     rw[z6 hz]; rfl
    rw[z6 this,ho,z7,decide_eq_true hi]; rfl
  rw[show Expr.kids (.mk k n s kids)=kids from rfl,z6 hcf]
  dsimp only
  rw[z7,Bool.not_not]
def isE(e:Expr):Bool:=vf 0 e&&decide (wv e≤256)
theorem MU(e:Expr)(h:allOk e)(hn:wv e≤1000000):(uB e).run=some (isE e):=by
 unfold uB isE
 have:=Eu e 0 256 h hn (by omega) (by omega) (by omega)
 have this:(jK e 0 256).run=some (iO 0 256 e):=this
 rw[z6 this,z7,(He e 0 256 (by omega)).1]
 congr 2
 exact decide_eq_decide.2 (by omega)
theorem KP(e:Expr)(h:allOk e)(hb:bkE e≤1000000000)(hn:wv e≤100000):(yV e).run=some (isE e):=by
 unfold yV isE
 have h1:(mD e 1).run=some (vf 0 e):=Ls e 0 h (by omega) (by omega)
 rw[z6 h1]
 cases vf 0 e with
 | false=>rfl
 | true =>
  rw[zy,z6 (ru e hb),z7]
  congr 1
  rw[Bool.true_and]
  exact decide_eq_decide.2 (by omega)
theorem WN(a b:Rat)(ha:xf 10000000 a)(hb:xf 10000000 b):(fa a b).run=some (xj (val a*val b)):=by
 unfold fa
 rw[z6 (jl a (xR ha (by omega))),z6 (jl b (xR hb (by omega))),xl,xl]
 have la:=uH (by omega) ha
 have lb:=uH (by omega) hb
 rw[Ih]
 generalize val a=p at *
 generalize val b=q at *
 simp only[nq,j6,cH]
 have l1:=wT p; have l2:=wh p; have l3:=wT q; have l4:=wh q
 have m1:=xe p.num.natAbs q.num.natAbs
 have m2:=xe p.den q.den
 rw[z6 (dh _ _ (by omega) (by omega)),z6 (dh _ _ (by omega) (by omega)),z6 (nN _ _ _ (by omega) (by omega)),z7,dU]
 rfl
theorem Hr(a b:Rat)(ha:xf 10000000 a)(hb:xf 10000000 b):(dz a b).run=some (xj (val a*val b)):=by
 unfold dz
 rw[z6 (xN a (xR ha (by omega))),z6 (xN b (xR hb (by omega))),xl,xl]
 have la:=uH (by omega) ha
 have lb:=uH (by omega) hb
 rw[Ih]
 generalize val a=p at *
 generalize val b=q at *
 simp only[nq,j6,cH]
 have l1:=wT p; have l2:=wh p; have l3:=wT q; have l4:=wh q
 have m1:=xe p.num.natAbs q.num.natAbs
 have m2:=xe p.den q.den
 rw[z6 (j3 _ _ (by omega) (by omega)),z6 (j3 _ _ (by omega) (by omega)),z6 (cW _ _ _ (by omega) (by omega)),z7,dU]
 rfl
theorem Xb(q:Q):(((zF q.num.natAbs).length:Int)==0)=decide (q=0):=by
 rw[dN]
 refine decide_eq_decide.2 ⟨fun h=>Rat.num_eq_zero.1 (Int.natAbs_eq_zero.1 h),fun h=>by rw[h]; rfl⟩
theorem Hu(a:Rat)(ha:xf 10000000 a):(dD a).run=some (decide (val a=0)):=by
 unfold dD
 rw[z6 (jl a (xR ha (by omega))),xl,z7,j6,Xb]
theorem Y3(a:Rat)(ha:xf 10000000 a):(mG a).run=some (decide (val a=0)):=by
 unfold mG
 rw[z6 (xN a (xR ha (by omega))),xl,z7,j6,Xb]
theorem z2A(q:Q)(h:q≠0):val ((xj q).1,((xj q).2.2.1,((xj q).2.1,())))=1 / q:=by
 rw[z4k 1 q h]
 unfold val
 rw[nq,j6,cH]
 simp
theorem Ct(a b:Rat)(ha:xf 10000000 a)(hb:xf 10000000 b):(XL a b).run=some (if val b=0 then(xj 0,false)else(xj (val a / val b),true)):=by
 have nb:=oA (k:=10000000) (by omega) hb
 rw[xl]at nb
 unfold XL
 rw[z6 (jl b (xR hb (by omega))),xl,j6,Xb]
 by_cases h:val b=0
 ·rw[if_pos h,za (decide_eq_true h),z6 (dM 0 ⟨by omega,by omega⟩),z7]
  rfl
 ·have hm:=WN a ((xj (val b)).1,((xj (val b)).2.2.1,((xj (val b)).2.1,()))) ha ⟨nb.2.1,nb.1,nb.2.2.2,nb.2.2.1⟩
  rw[z2A _ h]at hm
  rw[j6]at hm
  rw[if_neg h,z8 (decide_eq_false h),z6 hm,z7]
  congr 3
  rw[Rat.div_def,Rat.div_def]
  grind
theorem GU(a b:Rat)(ha:xf 10000000 a)(hb:xf 10000000 b):∃ z,(fH a b).run=some (if val b=0 then z else xj (val a / val b),decide (val b≠0)):=by
 by_cases h:val b=0
 ·unfold fH
  rw[z6 (xN a (xR ha (by omega))),z6 (xN b (xR hb (by omega))),xl,xl,j6,Xb,za (decide_eq_true h)]
  have hi:=xN eC (xR OU (by omega))
  have hi:(xd (false,(([]:List Int),(([]:List Int),())))).run=_:=hi
  refine⟨norm eC,?_⟩
  rw[if_pos h,show decide (val b≠0)=false by simp[h]]
  rw[z6 hi,z7]
 ·refine⟨xj 0,?_⟩
  rw[HQ a b ha hb h,if_neg h,show decide (val b≠0)=true by simp[h]]
abbrev AC:=List (Int×Q)×Q
def qs(t:Int×Q):Term:=(t.1,(xj t.2,()))
def qO(s:Int)(c:AC):wg:=(s,(c.1.map qs,(xj c.2,())))
def ug(v:Int)(q:Q):List (Int×Q):=if q=0 then[]else[(v,q)]
def QF(vd:Q):List (Int×Q)→List (Int×Q)
 | []=>[]
 | t::r=>ug t.1 (t.2*vd)++QF vd r
def HF(vd:Q)(c:AC):AC:=(QF vd c.1,c.2*vd)
def ml:Nat→List (Int×Q)→List (Int×Q)→List (Int×Q)
 | 0,_,_=>[]
 | n+1,[],[]=>[]
 | n+1,t::r,[]=>ug t.1 t.2++ml n r []
 | n+1,[],u::m=>ug u.1 u.2++ml n [] m
 | n+1,t::r,u::m=>if t.1<u.1 then ug t.1 t.2++ml n r (u::m)else if u.1<t.1 then ug u.1 u.2++ml n (t::r) m else ug t.1 (t.2+u.2)++ml n r m
def adC(a b:AC):AC:=(ml (a.1.length+b.1.length) a.1 b.1,a.2+b.2)
def VT(k:Nat)(c:AC):Prop:=xw c.2≤k∧∀ t∈c.1,xw t.2≤k
theorem YQ(p q:Q)(hp:xw p≤10000000)(hq:xw q≤10000000):(fa (xj p) (xj q)).run=some (xj (p*q)):=by
 have:=WN (xj p) (xj q) (qT hp) (qT hq)
 rwa [vg,vg]at this
theorem KA(p q:Q)(hp:xw p≤10000000)(hq:xw q≤10000000):(dz (xj p) (xj q)).run=some (xj (p*q)):=by
 have:=Hr (xj p) (xj q) (qT hp) (qT hq)
 rwa [vg,vg]at this
theorem Gb(p q:Q)(hp:xw p≤10000000)(hq:xw q≤10000000):(lJ (xj p) (xj q)).run=some (xj (p+q)):=by
 have:=Dh (xj p) (xj q) (qT hp) (qT hq)
 rwa [vg,vg]at this
theorem UQ(p q:Q)(hp:xw p≤10000000)(hq:xw q≤10000000):(db (xj p) (xj q)).run=some (xj (p+q)):=by
 have:=HD (xj p) (xj q) (qT hp) (qT hq)
 rwa [vg,vg]at this
theorem KF(p:Q)(hp:xw p≤10000000):(dD (xj p)).run=some (decide (p=0)):=by
 have:=Hu (xj p) (qT hp)
 rwa [vg]at this
theorem Cr(p:Q)(hp:xw p≤10000000):(mG (xj p)).run=some (decide (p=0)):=by
 have:=Y3 (xj p) (qT hp)
 rwa [vg]at this
theorem ZW(p:Q)(hp:xw p≤10000000):(xQ (xj p)).run=some (xj p):=by
 have:=jl (xj p) (xR (qT hp) (by omega))
 rwa [xl,vg]at this
theorem Da(p:Q)(hp:xw p≤10000000):(xd (xj p)).run=some (xj p):=by
 have:=xN (xj p) (xR (qT hp) (by omega))
 rwa [xl,vg]at this
theorem cQ(v:Int)(q:Q):(ug v q).length≤1:=by unfold ug; split<;>simp
theorem bS(b:Q):∀ l:List (Int×Q),(QF b l).length≤l.length
 | []=>Nat.le_refl _
 | t::r=>by
  show(ug t.1 (t.2*b)++QF b r).length≤r.length+1
  rw[List.length_append]
  have:=cQ t.1 (t.2*b)
  have:=bS b r
  omega
theorem z2d(vd:Q)(hb:xw vd≤1000000)(s:Int)(k0:Rat)(l:List (Int×Q))(hl:l.length≤1000000)(hq:∀ t∈l,xw t.2≤1000000) :
  ∃ v,(eL (xj vd) (l.map qs) (l.length:Int) ((0:Int),(((0:Int),(false,(([]:List Int),(([]:List Int),())))),((s,(k0.1,(k0.2.1,(k0.2.2.1,())))),(([]:List Term),([]:List Term)))))).run=some (v,((s,k0),(([]:List Term),(QF vd l).map qs))):=by
 have key:∀ (m k:Nat) (acc:List Term) (v:Int×Rat),k+m=l.length→acc.length≤k→∃ v',(eL (xj vd) (l.map qs) (l.length:Int) ((k:Int),(v,((s,k0),(([]:List Term),acc))))).run=some (v',((s,k0),(([]:List Term),acc++(QF vd (l.drop k)).map qs))):=by
  intro m
  induction m with
  | zero =>
   intro k acc v hk ha
   have:k=l.length:=by omega
   subst this
   rw[List.drop_length]
   refine⟨v,qf ?_⟩
   unfold gS
   dsimp only
   rw[z8 (xi _),ze _ rfl rfl rfl,ze _ rfl rfl rfl,zx _ rfl,zx _ rfl,z7]
   show _=some (Sum.inr (v,((s,k0),(([]:List Term),acc++([]:List Term)))))
   rw[List.append_nil]
  | succ m ih =>
   intro k acc v hk ha
   have h1:k<l.length:=by omega
   have mh:k<(l.map qs).length:=by rw[List.length_map]; exact h1
   have hqk:=hq _ (List.getElem_mem h1)
   have hm:=YQ l[k].2 vd (by omega) (by omega)
   have hml:=QU l[k].2 vd
   have hz:=KF (l[k].2*vd) (by omega)
   have Tz:(gS (xj vd) (l.map qs) (l.length:Int) ((k:Int),(v,((s,k0),(([]:List Term),acc))))).run=some (.inl (((k+1:Nat):Int),(v,((s,k0),(([]:List Term),acc++(ug l[k].1 (l[k].2*vd)).map qs))))):=by
    unfold gS
    dsimp only
    rw[za (qK h1),zc (zm mh),qZ mh,List.getElem_map]
    show(T.bind (fa (xj l[k].2) (xj vd)) _).run=_
    rw[z6 hm,z6 hz]
    unfold ug
    by_cases c:l[k].2*vd=0
    ·rw[if_pos c,z8 (by rw[decide_eq_true c]; rfl),ze _ rfl rfl rfl,ze _ rfl rfl rfl,zx _ rfl,zx _ rfl,z7,vr k _ h1 (by omega)]
     show _=some (Sum.inl (_,(v,((s,k0),([],acc++([]:List Term))))))
     rw[List.append_nil]
    ·rw[if_neg c,za (by rw[decide_eq_false c]; rfl),xc _ rfl rfl rfl (by omega),ze _ rfl rfl rfl,ze _ (by simp) rfl (by simp),zx _ rfl,zx _ (by simp),z7,vr k _ h1 (by omega)]
     rfl
   have hll:=cQ l[k].1 (l[k].2*vd)
   obtain⟨v',hv⟩:=ih (k+1) (acc++(ug l[k].1 (l[k].2*vd)).map qs) v (by omega) (by rw[List.length_append,List.length_map]; omega)
   refine⟨v',(qC Tz).trans (hv.trans ?_)⟩
   rw[List.drop_eq_getElem_cons h1]
   show _=some (v',((s,k0),([],acc++(ug l[k].1 (l[k].2*vd)++QF vd (l.drop (k+1))).map qs)))
   rw[List.map_append,List.append_assoc]
 obtain⟨v',h⟩:=key l.length 0 [] (0,eC) (by omega) (by simp)
 rw[List.drop_zero,List.nil_append]at h
 exact⟨v',h⟩
theorem jo(vd:Q)(s:Int)(c:AC)(hb:xw vd≤1000000)(hc:VT 1000000 c)(hl:c.1.length≤1000000):(uF (qO s c) (xj vd)).run=some (qO s (HF vd c)):=by
 have hm:=YQ c.2 vd (by have:=hc.1; omega) (by omega)
 obtain⟨v,hL⟩:=z2d vd hb s (xj (c.2*vd)) c.1 hl hc.2
 unfold uF
 show(T.bind (fa (xj c.2) (xj vd)) _).run=_
 rw[z6 hm,ze _ rfl rfl rfl,ze _ rfl rfl rfl,zx _ rfl,zx _ rfl]
 have hL:(eL (xj vd) (qO s c).2.1 (Nat.cast (List.length (qO s c).2.1):Int) ((0:Int),(((0:Int),(false,(([]:List Int),(([]:List Int),())))),(((qO s c).1,((xj (c.2*vd)).1,((xj (c.2*vd)).2.1,((xj (c.2*vd)).2.2.1,())))),(([]:List Term),([]:List Term)))))).run=some (v,((s,xj (c.2*vd)),(([]:List Term),(QF vd c.1).map qs))):=by
  have e:(List.length (qO s c).2.1)=c.1.length:=by show(c.1.map qs).length=_; rw[List.length_map]
  rw[e]; exact hL
 rw[z6 hL]
 dsimp only
 rw[zx _ rfl,z7,Nat.zero_add,List.take_length,List.drop_zero]
 rfl
theorem Uc(v:Int)(q:Q)(l:List Term)(hq:xw q≤10000000)(hl:l.length≤1000000000):(vA v (xj q) l).run=some (l++(ug v q).map qs):=by
 unfold vA ug
 rw[z6 (Cr q hq)]
 by_cases c:q=0
 ·rw[if_pos c,za (decide_eq_true c),ze _ rfl rfl rfl,zx _ rfl,z7]
  show some l=some (l++([]:List Term))
  rw[List.append_nil]
 ·rw[if_neg c,z8 (decide_eq_false c),z6 (Da q hq),xc _ rfl rfl rfl (by omega),ze _ (by simp) rfl (by simp),zx _ (by simp),z7]
  rfl
theorem uP(vd:Q)(s:Int)(c:AC)(hb:xw vd≤1000000)(hc:VT 1000000 c)(hl:c.1.length≤1000000):(va (qO s c) (xj vd)).run=some (qO s (HF vd c)):=by
 have hm:=KA c.2 vd (by have:=hc.1; omega) (by omega)
 have key:∀ (m k:Nat) (acc:List Term) (v:Int×Rat) (k0:Rat),k+m=c.1.length→acc.length≤k→∃ v',(lS (qO s c) (xj vd) ((k:Int),(v,((s,k0),(([]:List Term),acc))))).run=some (v',((s,k0),(([]:List Term),acc++(QF vd (c.1.drop k)).map qs))):=by
  intro m
  induction m with
  | zero =>
   intro k acc v k0 hk ha
   have:k=c.1.length:=by omega
   subst this
   rw[List.drop_length]
   refine⟨v,qf ?_⟩
   unfold yP
   dsimp only
   rw[show(qO s c).2.1=c.1.map qs from rfl,List.length_map,z8 (xi _),ze _ rfl rfl rfl,ze _ rfl rfl rfl,zx _ rfl,zx _ rfl,z7]
   show some (Sum.inr (v,((s,k0),(([]:List Term),acc))))=some (Sum.inr (v,((s,k0),(([]:List Term),acc++([]:List Term)))))
   rw[List.append_nil]
  | succ m ih =>
   intro k acc v k0 hk ha
   have h1:k<c.1.length:=by omega
   have mh:k<(c.1.map qs).length:=by rw[List.length_map]; exact h1
   have hqk:=hc.2 _ (List.getElem_mem h1)
   have hm:=KA c.1[k].2 vd (by omega) (by omega)
   have hml:=QU c.1[k].2 vd
   have hla:=Uc c.1[k].1 (c.1[k].2*vd) acc (by omega) (by omega)
   have hll:=cQ c.1[k].1 (c.1[k].2*vd)
   have Tz:(yP (qO s c) (xj vd) ((k:Int),(v,((s,k0),(([]:List Term),acc))))).run=some (.inl (((k+1:Nat):Int),(v,((s,k0),(([]:List Term),acc++(ug c.1[k].1 (c.1[k].2*vd)).map qs))))):=by
    unfold yP
    dsimp only
    rw[show(qO s c).2.1=c.1.map qs from rfl,za (by rw[List.length_map]; exact qK h1),zc (zm mh),zc (zm mh),qZ mh,List.getElem_map]
    show(T.bind (dz (xj c.1[k].2) (xj vd)) _).run=_
    rw[z6 hm,ze _ rfl rfl rfl,zx _ rfl]
    show(T.bind (vA c.1[k].1 (xj (c.1[k].2*vd)) acc) _).run=_
    rw[z6 hla,ze _ rfl rfl rfl,ze _ rfl rfl rfl,zx _ rfl,zx _ rfl,z7,vr k _ h1 (by omega)]
   obtain⟨v',hv⟩:=ih (k+1) (acc++(ug c.1[k].1 (c.1[k].2*vd)).map qs) v k0 (by omega) (by rw[List.length_append,List.length_map]; omega)
   refine⟨v',(qC Tz).trans (hv.trans ?_)⟩
   rw[List.drop_eq_getElem_cons h1]
   show _=some (v',((s,k0),([],acc++(ug c.1[k].1 (c.1[k].2*vd)++QF vd (c.1.drop (k+1))).map qs)))
   rw[List.map_append,List.append_assoc]
 obtain⟨v,hL⟩:=key c.1.length 0 [] (0,eC) (xj (c.2*vd)) (by omega) (by simp)
 rw[List.drop_zero,List.nil_append]at hL
 unfold va
 show(T.bind (dz (xj c.2) (xj vd)) _).run=_
 rw[z6 hm,ze _ rfl rfl rfl,ze _ rfl rfl rfl,zx _ rfl,zx _ rfl]
 have hL:(lS (qO s c) (xj vd) ((0:Int),(((0:Int),(false,(([]:List Int),(([]:List Int),())))),(((qO s c).1,((xj (c.2*vd)).1,((xj (c.2*vd)).2.1,((xj (c.2*vd)).2.2.1,())))),(([]:List Term),([]:List Term)))))).run=some (v,((s,xj (c.2*vd)),(([]:List Term),(QF vd c.1).map qs))):=hL
 rw[z6 hL]
 dsimp only
 rw[zx _ rfl,z7,Nat.zero_add,List.take_length,List.drop_zero]
 rfl
theorem z2F(n:Nat):ml n [] []=[]:=by cases n<;>rfl
theorem oS(s s2:Int)(a b:AC)(ha:VT 1000000 a)(hb:VT 1000000 b)(la:a.1.length≤1000000)(lb:b.1.length≤1000000):(cU (qO s a) (qO s2 b)).run=some (qO s (adC a b)):=by
 have hm:=UQ a.2 b.2 (by have:=ha.1; omega) (by have:=hb.1; omega)
 have key:∀ (m i k:Nat) (acc:List Term) (v:Int×Rat) (k0:Rat),i≤a.1.length→k≤b.1.length→(a.1.length-i)+(b.1.length-k)≤m→acc.length≤i+k →
   ∃ v',(gA (qO s a) (qO s2 b) ((i:Int),((k:Int),(v,((s,k0),(([]:List Term),acc)))))).run=some (v',((s,k0),(([]:List Term),acc++(ml m (a.1.drop i) (b.1.drop k)).map qs))):=by
  intro m
  induction m with
  | zero =>
   intro i k acc v k0 hi hk hm ha
   have e1:i=a.1.length:=by omega
   have e2:k=b.1.length:=by omega
   subst e1 e2
   refine⟨v,qf ?_⟩
   unfold uV
   dsimp only
   rw[show(qO s a).2.1=a.1.map qs from rfl,show(qO s2 b).2.1=b.1.map qs from rfl,List.length_map,List.length_map,z8 (by rw[xi,xi]; rfl),ze _ rfl rfl rfl,ze _ rfl rfl rfl,zx _ rfl,zx _ rfl,z7]
   show some (Sum.inr (v,((s,k0),(([]:List Term),acc))))=some (Sum.inr (v,((s,k0),(([]:List Term),acc++([]:List Term)))))
   rw[List.append_nil]
  | succ m ih =>
   intro i k acc v k0 hi hk hm FG
   by_cases Jz:i=a.1.length∧k=b.1.length
   ·obtain⟨e1,e2⟩:=Jz
    subst e1 e2
    refine⟨v,qf ?_⟩
    rw[List.drop_length,List.drop_length,z2F]
    unfold uV
    dsimp only
    rw[show(qO s a).2.1=a.1.map qs from rfl,show(qO s2 b).2.1=b.1.map qs from rfl,List.length_map,List.length_map,z8 (by rw[xi,xi]; rfl),ze _ rfl rfl rfl,ze _ rfl rfl rfl,zx _ rfl,zx _ rfl,z7]
    show some (Sum.inr (v,((s,k0),(([]:List Term),acc))))=some (Sum.inr (v,((s,k0),(([]:List Term),acc++([]:List Term)))))
    rw[List.append_nil]
   ·-- which of the two goes on
    have go:∀ (i' k':Nat) (t:Int) (q:Q),(uV (qO s a) (qO s2 b) ((i:Int),((k:Int),(v,((s,k0),(([]:List Term),acc)))))).run=some (.inl ((i':Int),((k':Int),(v,((s,k0),(([]:List Term),acc++(ug t q).map qs)))))) →
      i'≤a.1.length→k'≤b.1.length→(a.1.length-i')+(b.1.length-k')≤m→i+k+1≤i'+k'→ml (m+1) (a.1.drop i) (b.1.drop k)=ug t q++ml m (a.1.drop i') (b.1.drop k') →
      ∃ v',(gA (qO s a) (qO s2 b) ((i:Int),((k:Int),(v,((s,k0),(([]:List Term),acc)))))).run=some (v',((s,k0),(([]:List Term),acc++(ml (m+1) (a.1.drop i) (b.1.drop k)).map qs))):=by
     intro i' k' t q xM h1 h2 h3 h4 h5
     have hll:=cQ t q
     obtain⟨v',hv⟩:=ih i' k' (acc++(ug t q).map qs) v k0 h1 h2 h3 (by rw[List.length_append,List.length_map]; omega)
     refine⟨v',(qC xM).trans (hv.trans ?_)⟩
     rw[h5,List.map_append,List.append_assoc]
    have hqa:=ha.2
    have hqb:=hb.2
    have c0:(decide ((i:Int)<(a.1.length:Int))||decide ((k:Int)<(b.1.length:Int)))=true:=by
     by_cases h:i<a.1.length
     ·rw[qK h]; rfl
     ·rw[qK (show k<b.1.length by omega),Bool.or_true]
    -- the first goes on
    have one:∀ (o9:i<a.1.length),(((k:Int)==(b.1.length:Int))||(decide ((i:Int)<(a.1.length:Int))&&decide ((nth (a.1.map qs) (i:Int) (zb zp)).1<(nth (b.1.map qs) (k:Int) (zb zp)).1)))=true →
      ml (m+1) (a.1.drop i) (b.1.drop k)=ug a.1[i].1 a.1[i].2++ml m (a.1.drop (i+1)) (b.1.drop k) →
      ∃ v',(gA (qO s a) (qO s2 b) ((i:Int),((k:Int),(v,((s,k0),(([]:List Term),acc)))))).run=some (v',((s,k0),(([]:List Term),acc++(ml (m+1) (a.1.drop i) (b.1.drop k)).map qs))):=by
     intro o9 hc hA
     have EC:i<(a.1.map qs).length:=by rw[List.length_map]; exact o9
     have hqk:=hqa _ (List.getElem_mem o9)
     have hla:=Uc a.1[i].1 a.1[i].2 acc (by omega) (by omega)
     refine go (i+1) k a.1[i].1 a.1[i].2 ?_ (by omega) hk (by omega) (by omega) hA
     unfold uV
     dsimp only
     rw[show(qO s a).2.1=a.1.map qs from rfl,show(qO s2 b).2.1=b.1.map qs from rfl,List.length_map,List.length_map,za c0,
      zc (fun hkb _=>⟨zm o9,by have:k≠b.1.length:=(by rintro rfl; simp at hkb); exact zm (by omega)⟩),za hc,zc (zm o9),zc (zm o9),ze _ rfl rfl rfl,zx _ rfl,qZ EC,List.getElem_map]
     show(T.bind (vA a.1[i].1 (xj a.1[i].2) acc) _).run=_
     rw[z6 hla,ze _ rfl rfl rfl,ze _ rfl rfl rfl,zx _ rfl,zx _ rfl,z7,vr i _ o9 (by omega)]
    have two:∀ (Xz:k<b.1.length),(((k:Int)==(b.1.length:Int))||(decide ((i:Int)<(a.1.length:Int))&&decide ((nth (a.1.map qs) (i:Int) (zb zp)).1<(nth (b.1.map qs) (k:Int) (zb zp)).1)))=false →
      (((i:Int)==(a.1.length:Int))||decide ((nth (b.1.map qs) (k:Int) (zb zp)).1<(nth (a.1.map qs) (i:Int) (zb zp)).1))=true →
      ml (m+1) (a.1.drop i) (b.1.drop k)=ug b.1[k].1 b.1[k].2++ml m (a.1.drop i) (b.1.drop (k+1)) →
      ∃ v',(gA (qO s a) (qO s2 b) ((i:Int),((k:Int),(v,((s,k0),(([]:List Term),acc)))))).run=some (v',((s,k0),(([]:List Term),acc++(ml (m+1) (a.1.drop i) (b.1.drop k)).map qs))):=by
     intro Xz hc SJ hA
     have z0B:k<(b.1.map qs).length:=by rw[List.length_map]; exact Xz
     have hqk:=hqb _ (List.getElem_mem Xz)
     have hla:=Uc b.1[k].1 b.1[k].2 acc (by omega) (by omega)
     refine go i (k+1) b.1[k].1 b.1[k].2 ?_ hi (by omega) (by omega) (by omega) hA
     unfold uV
     dsimp only
     rw[show(qO s a).2.1=a.1.map qs from rfl,show(qO s2 b).2.1=b.1.map qs from rfl,List.length_map,List.length_map,za c0,
      zc (fun _ hia=>⟨zm (by simpa using hia),zm Xz⟩),z8 hc,
      zc (fun hia=>⟨zm Xz,by have:i≠a.1.length:=(by rintro rfl; simp at hia); exact zm (by omega)⟩),za SJ,zc (zm Xz),zc (zm Xz),ze _ rfl rfl rfl,zx _ rfl,qZ z0B,List.getElem_map]
     show(T.bind (vA b.1[k].1 (xj b.1[k].2) acc) _).run=_
     rw[z6 hla,ze _ rfl rfl rfl,ze _ rfl rfl rfl,zx _ rfl,zx _ rfl,z7,vr k _ Xz (by omega)]
    have kk:∀ h:k<b.1.length,((k:Int)==(b.1.length:Int))=false:=fun h=>by rw[beq_eq_false_iff_ne]; omega
    by_cases ga:k=b.1.length
    ·have o9:i<a.1.length:=by omega
     refine one o9 (by rw[ga]; simp) ?_
     subst ga
     rw[List.drop_length,List.drop_eq_getElem_cons o9]
     rfl
    ·have Xz:k<b.1.length:=by omega
     have z0B:k<(b.1.map qs).length:=by rw[List.length_map]; exact Xz
     by_cases ZP:i=a.1.length
     ·refine two Xz (by rw[kk Xz,ZP,xi]; rfl) (by rw[ZP]; simp) ?_
      subst ZP
      rw[List.drop_length,List.drop_eq_getElem_cons Xz]
      rfl
     ·have o9:i<a.1.length:=by omega
      have EC:i<(a.1.map qs).length:=by rw[List.length_map]; exact o9
      have en:(nth (a.1.map qs) (i:Int) (zb zp)).1=a.1[i].1:=by rw[qZ EC,List.getElem_map]; rfl
      have em:(nth (b.1.map qs) (k:Int) (zb zp)).1=b.1[k].1:=by rw[qZ z0B,List.getElem_map]; rfl
      have ii:((i:Int)==(a.1.length:Int))=false:=by rw[beq_eq_false_iff_ne]; omega
      by_cases c1:a.1[i].1<b.1[k].1
      ·refine one o9 (by rw[en,em,decide_eq_true c1,qK o9]; simp) ?_
       rw[List.drop_eq_getElem_cons o9,List.drop_eq_getElem_cons Xz]
       show(if a.1[i].1<b.1[k].1 then _ else _)=_
       rw[if_pos c1]
      ·have E2:(((k:Int)==(b.1.length:Int))||(decide ((i:Int)<(a.1.length:Int))&&decide ((nth (a.1.map qs) (i:Int) (zb zp)).1<(nth (b.1.map qs) (k:Int) (zb zp)).1)))=false:=by
        rw[en,em,decide_eq_false c1,kk Xz]; simp
       by_cases c2:b.1[k].1<a.1[i].1
       ·refine two Xz E2 (by rw[en,em,decide_eq_true c2]; simp) ?_
        rw[List.drop_eq_getElem_cons o9,List.drop_eq_getElem_cons Xz]
        show(if a.1[i].1<b.1[k].1 then _ else if b.1[k].1<a.1[i].1 then _ else _)=_
        rw[if_neg c1,if_pos c2]
       ·have q1:=hqa _ (List.getElem_mem o9)
        have q2:=hqb _ (List.getElem_mem Xz)
        have hml:=XS a.1[i].2 b.1[k].2
        have Jb:=UQ a.1[i].2 b.1[k].2 (by omega) (by omega)
        have hla:=Uc a.1[i].1 (a.1[i].2+b.1[k].2) acc (by omega) (by omega)
        refine go (i+1) (k+1) a.1[i].1 (a.1[i].2+b.1[k].2) ?_ (by omega) (by omega) (by omega) (by omega) ?_
        ·unfold uV
         dsimp only
         rw[show(qO s a).2.1=a.1.map qs from rfl,show(qO s2 b).2.1=b.1.map qs from rfl,List.length_map,List.length_map,za c0,
          zc (fun _ _=>⟨zm o9,zm Xz⟩),z8 E2,zc (fun _=>⟨zm Xz,zm o9⟩),z8 (by rw[en,em,decide_eq_false c2,ii]; rfl),zc (zm o9),zc (zm o9),zc (zm Xz),qZ EC,qZ z0B,List.getElem_map,List.getElem_map]
         show(T.bind (db (xj a.1[i].2) (xj b.1[k].2)) _).run=_
         rw[z6 Jb,ze _ rfl rfl rfl,zx _ rfl]
         show(T.bind (vA a.1[i].1 (xj (a.1[i].2+b.1[k].2)) acc) _).run=_
         rw[z6 hla,ze _ rfl rfl rfl,ze _ rfl rfl rfl,zx _ rfl,zx _ rfl,z7,vr i _ o9 (by omega),vr k _ Xz (by omega)]
        ·rw[List.drop_eq_getElem_cons o9,List.drop_eq_getElem_cons Xz]
         show(if a.1[i].1<b.1[k].1 then _ else if b.1[k].1<a.1[i].1 then _ else _)=_
         rw[if_neg c1,if_neg c2]
 obtain⟨v,hL⟩:=key (a.1.length+b.1.length) 0 0 [] (0,eC) (xj (a.2+b.2)) (by omega) (by omega) (by omega) (by simp)
 rw[List.drop_zero,List.drop_zero,List.nil_append]at hL
 unfold cU
 show(T.bind (db (xj a.2) (xj b.2)) _).run=_
 rw[z6 hm,ze _ rfl rfl rfl,ze _ rfl rfl rfl,zx _ rfl,zx _ rfl]
 have hL:(gA (qO s a) (qO s2 b) ((0:Int),((0:Int),(((0:Int),(false,(([]:List Int),(([]:List Int),())))),(((qO s a).1,((xj (a.2+b.2)).1,((xj (a.2+b.2)).2.1,((xj (a.2+b.2)).2.2.1,())))),(([]:List Term),([]:List Term))))))).run=some (v,((s,xj (a.2+b.2)),(([]:List Term),(ml (a.1.length+b.1.length) a.1 b.1).map qs))):=hL
 rw[z6 hL]
 dsimp only
 rw[zx _ rfl,z7,Nat.zero_add,List.take_length,List.drop_zero]
 rfl
theorem mI(t:Int×Q)(r:List (Int×Q)):uu (e:=zp) (1:Int) (((List.map qs (t::r)).length:Nat):Int) (List.map qs (t::r))=r.map qs:=by
 unfold uu
 rw[Int.toNat_natCast,List.take_length]
 rfl
theorem rJ(s s2:Int)(a b:AC)(ha:VT 1000000 a)(hb:VT 1000000 b)(la:a.1.length≤1000000)(lb:b.1.length≤1000000):(tg (qO s a) (qO s2 b)).run=some (qO s (adC a b)):=by
 have hm:=Gb a.2 b.2 (by have:=ha.1; omega) (by have:=hb.1; omega)
 have key:∀ (n:Nat) (l m:List (Int×Q)) (acc:List Term) (v:Int×Rat) (k0:Rat),l.length+m.length≤n→acc.length+(l.length+m.length)≤10000000→(∀ t∈l,xw t.2≤1000000)→(∀ t∈m,xw t.2≤1000000) →
   ∃ v',(o6 (l.map qs,(m.map qs,(v,((s,k0),(([]:List Term),acc)))))).run=some (v',((s,k0),(([]:List Term),acc++(ml n l m).map qs))):=by
  intro n
  induction n with
  | zero =>
   intro l m acc v k0 hn FG hl hm
   have e1:l=[]:=List.eq_nil_of_length_eq_zero (by omega)
   have e2:m=[]:=List.eq_nil_of_length_eq_zero (by omega)
   subst e1 e2
   refine⟨v,qf ?_⟩
   show(vc (([]:List Term),(([]:List Term),(v,((s,k0),(([]:List Term),acc)))))).run=some (.inr (v,((s,k0),(([]:List Term),acc++([]:List Term)))))
   rw[List.append_nil]
   unfold vc
   dsimp only
   rw[z8 (by rfl),ze _ rfl rfl rfl,ze _ rfl rfl rfl,zx _ rfl,zx _ rfl,z7]
  | succ n ih =>
   intro l m acc v k0 hn FG hl hm
   by_cases Jz:l=[]∧m=[]
   ·obtain⟨rfl,rfl⟩:=Jz
    refine⟨v,qf ?_⟩
    show(vc (([]:List Term),(([]:List Term),(v,((s,k0),(([]:List Term),acc)))))).run=some (.inr (v,((s,k0),(([]:List Term),acc++([]:List Term)))))
    rw[List.append_nil]
    unfold vc
    dsimp only
    rw[z8 (by rfl),ze _ rfl rfl rfl,ze _ rfl rfl rfl,zx _ rfl,zx _ rfl,z7]
   ·have Wu:0<l.length+m.length:=by
     cases l with
     | nil=>cases m with
      | nil=>exact absurd ⟨rfl,rfl⟩ Jz
      | cons=>simp
     | cons=>simp; omega
    have c0:decide ((0:Int)<(zt (((l.map qs).length:Int)+((m.map qs).length:Int))))=true:=by
     rw[List.length_map,List.length_map,zN (by omega) (by omega)]
     exact decide_eq_true (by omega)
    -- what is laid
    have lay:∀ (l' m':List (Int×Q)) (t:Int) (q:Q),xw q≤10000000 →
      ((T.bind (dD ((qs (t,q)).2.1.1,((qs (t,q)).2.1.2.1,((qs (t,q)).2.1.2.2.1,())))) fun r4 =>
       .ite (!r4)
        (.zd (xC (List.length acc) (List.length acc) (0:Nat) (List.length acc) (List.length acc) (1:Nat) (64:Nat)) <|
         .zd (zh (List.length ([]:List Term)) (0:Nat) (List.length ([]:List Term)) (List.length ([]:List Term))) <|
         .zd (zh ((List.length acc)+(1:Nat)) (0:Nat) ((List.length acc)+(1:Nat)) (List.length (acc++([qs (t,q)]:List Term)))) <|
         .zd ((List.length ([]:List Term))=(List.length ([]:List Term))) <|
         .zd (((List.length acc)+(1:Nat))=(List.length (acc++([qs (t,q)]:List Term)))) <|
         .ret (.inl (l'.map qs,(m'.map qs,(v,((s,k0),(([]:List Term),(acc++([qs (t,q)]:List Term)))))))))
        (.zd (zh (List.length ([]:List Term)) (0:Nat) (List.length ([]:List Term)) (List.length ([]:List Term))) <|
         .zd (zh (List.length acc) (0:Nat) (List.length acc) (List.length acc)) <|
         .zd ((List.length ([]:List Term))=(List.length ([]:List Term))) <|
         .zd ((List.length acc)=(List.length acc)) <|
         .ret (.inl (l'.map qs,(m'.map qs,(v,((s,k0),(([]:List Term),acc)))))))):T (((List Term)×(List Term)×(Int×Rat)×(Int×Rat)×(List Term)×(List Term))⊕((Int×Rat)×(Int×Rat)×(List Term)×(List Term)))).run =
      some (.inl (l'.map qs,(m'.map qs,(v,((s,k0),(([]:List Term),acc++(ug t q).map qs)))))):=by
     intro l' m' t q hq
     have hz:=KF q hq
     show(T.bind (dD (xj q)) _).run=_
     rw[z6 hz]
     unfold ug
     by_cases c:q=0
     ·rw[if_pos c,z8 (by rw[decide_eq_true c]; rfl),ze _ rfl rfl rfl,ze _ rfl rfl rfl,zx _ rfl,zx _ rfl,z7]
      show _=some (Sum.inl (_,(_,(v,((s,k0),([],acc++([]:List Term)))))))
      rw[List.append_nil]
     ·rw[if_neg c,za (by rw[decide_eq_false c]; rfl),xc _ rfl rfl rfl (by omega),ze _ rfl rfl rfl,ze _ (by simp) rfl (by simp),zx _ rfl,zx _ (by simp),z7]
      rfl
    have on:∀ (l' m':List (Int×Q)) (t:Int) (q:Q),(vc (l.map qs,(m.map qs,(v,((s,k0),(([]:List Term),acc)))))).run=some (.inl (l'.map qs,(m'.map qs,(v,((s,k0),(([]:List Term),acc++(ug t q).map qs)))))) →
      l'.length+m'.length+1≤l.length+m.length→(∀ t∈l',xw t.2≤1000000)→(∀ t∈m',xw t.2≤1000000)→ml (n+1) l m=ug t q++ml n l' m' →
      ∃ v',(o6 (l.map qs,(m.map qs,(v,((s,k0),(([]:List Term),acc)))))).run=some (v',((s,k0),(([]:List Term),acc++(ml (n+1) l m).map qs))):=by
     intro l' m' t q xM h1 h2 h3 h4
     have hll:=cQ t q
     obtain⟨v',hv⟩:=ih l' m' (acc++(ug t q).map qs) v k0 (by omega) (by rw[List.length_append,List.length_map]; omega) h2 h3
     refine⟨v',(qC xM).trans (hv.trans ?_)⟩
     rw[h4,List.map_append,List.append_assoc]
    have i0:∀ (t:Int×Q) (r:List (Int×Q)),zi (0:Int) ((List.map qs (t::r)).length):=fun t r=>⟨by omega,by simp only[List.length_map,List.length_cons]; omega⟩
    have s1:∀ (t:Int×Q) (r:List (Int×Q)),nh (1:Int) (((List.map qs (t::r)).length:Nat):Int) ((List.map qs (t::r)).length):=fun t r=>⟨by omega,by simp only[List.length_map,List.length_cons]; omega,by omega⟩
    have n0:∀ (t:Int×Q) (r:List (Int×Q)),nth (List.map qs (t::r)) (0:Int) (zb zp)=qs t:=fun t r=>rfl
    have ln:∀ (t:Int×Q) (r:List (Int×Q)),((((List.map qs (t::r)).length:Nat):Int)==0)=false:=fun t r=>by rw[beq_eq_false_iff_ne]; simp only[List.length_map,List.length_cons]; omega
    have lp:∀ (t:Int×Q) (r:List (Int×Q)),decide ((0:Int)<(((List.map qs (t::r)).length:Nat):Int))=true:=fun t r=>decide_eq_true (by simp only[List.length_map,List.length_cons]; omega)
    cases l with
    | nil =>
     cases m with
     | nil=>exact absurd ⟨rfl,rfl⟩ Jz
     | cons u m =>
      have hqu:=hm u List.mem_cons_self
      have LL:=ZW u.2 (by omega)
      refine on [] m u.1 u.2 ?_ (by simp) hl (fun t ht=>hm t (List.mem_cons_of_mem _ ht)) rfl
      unfold vc
      dsimp only
      rw[za c0]
      rw[z6 (a:=(List.map qs [],(List.map qs m,(v,((s,k0),(([]:List Term),(acc,qs (u.1,u.2)))))))) (by
       rw[zc (fun _ h=>by simp at h),z8 (by rw[ln]; rfl),zc (fun h=>by simp at h),za (by rfl),zc (i0 u m),zc (i0 u m),n0]
       show(T.bind (xQ (xj u.2)) _).run=_
       rw[z6 LL,zc (s1 u m),ze _ rfl rfl rfl,ze _ rfl rfl rfl,zx _ rfl,zx _ rfl,z7,mI]
       rfl)]
      exact lay [] m u.1 u.2 (by omega)
    | cons t l =>
     have hqt:=hl t List.mem_cons_self
     have hnt:=ZW t.2 (by omega)
     cases m with
     | nil =>
      refine on l [] t.1 t.2 ?_ (by simp) (fun x hx=>hl x (List.mem_cons_of_mem _ hx)) hm rfl
      unfold vc
      dsimp only
      rw[za c0]
      rw[z6 (a:=(List.map qs l,(List.map qs [],(v,((s,k0),(([]:List Term),(acc,qs (t.1,t.2)))))))) (by
       rw[zc (fun h=>by simp at h),za (by rfl),zc (i0 t l),zc (i0 t l),n0]
       show(T.bind (xQ (xj t.2)) _).run=_
       rw[z6 hnt,zc (s1 t l),ze _ rfl rfl rfl,ze _ rfl rfl rfl,zx _ rfl,zx _ rfl,z7,mI]
       rfl)]
      exact lay l [] t.1 t.2 (by omega)
     | cons u m =>
      have hqu:=hm u List.mem_cons_self
      have LL:=ZW u.2 (by omega)
      have hml:=XS t.2 u.2
      have Jb:=Gb t.2 u.2 (by omega) (by omega)
      have hA:ml (n+1) (t::l) (u::m)=if t.1<u.1 then ug t.1 t.2++ml n l (u::m)else if u.1<t.1 then ug u.1 u.2++ml n (t::l) m else ug t.1 (t.2+u.2)++ml n l m:=rfl
      by_cases c1:t.1<u.1
      ·refine on l (u::m) t.1 t.2 ?_ (by simp only[List.length_cons]; omega) (fun x hx=>hl x (List.mem_cons_of_mem _ hx)) hm (by rw[hA,if_pos c1])
       unfold vc
       dsimp only
       rw[za c0]
       rw[z6 (a:=(List.map qs l,(List.map qs (u::m),(v,((s,k0),(([]:List Term),(acc,qs (t.1,t.2)))))))) (by
        rw[zc (fun _ _=>⟨i0 t l,i0 u m⟩),za (by rw[ln,lp,n0,n0]; show(false||(true&&decide (t.1<u.1)))=true; rw[decide_eq_true c1]; rfl),zc (i0 t l),zc (i0 t l),n0]
        show(T.bind (xQ (xj t.2)) _).run=_
        rw[z6 hnt,zc (s1 t l),ze _ rfl rfl rfl,ze _ rfl rfl rfl,zx _ rfl,zx _ rfl,z7,mI]
        rfl)]
       exact lay l (u::m) t.1 t.2 (by omega)
      ·by_cases c2:u.1<t.1
       ·refine on (t::l) m u.1 u.2 ?_ (by simp only[List.length_cons]; omega) hl (fun x hx=>hm x (List.mem_cons_of_mem _ hx)) (by rw[hA,if_neg c1,if_pos c2])
        unfold vc
        dsimp only
        rw[za c0]
        rw[z6 (a:=(List.map qs (t::l),(List.map qs m,(v,((s,k0),(([]:List Term),(acc,qs (u.1,u.2)))))))) (by
         rw[zc (fun _ _=>⟨i0 t l,i0 u m⟩),z8 (by rw[ln,lp,n0,n0]; show(false||(true&&decide (t.1<u.1)))=false; rw[decide_eq_false c1]; rfl),zc (fun _=>⟨i0 u m,i0 t l⟩),za (by rw[ln,n0,n0]; show(false||decide (u.1<t.1))=true; rw[decide_eq_true c2]; rfl),zc (i0 u m),zc (i0 u m),n0]
         show(T.bind (xQ (xj u.2)) _).run=_
         rw[z6 LL,zc (s1 u m),ze _ rfl rfl rfl,ze _ rfl rfl rfl,zx _ rfl,zx _ rfl,z7,mI]
         rfl)]
        exact lay (t::l) m u.1 u.2 (by omega)
       ·refine on l m t.1 (t.2+u.2) ?_ (by simp only[List.length_cons]; omega) (fun x hx=>hl x (List.mem_cons_of_mem _ hx)) (fun x hx=>hm x (List.mem_cons_of_mem _ hx)) (by rw[hA,if_neg c1,if_neg c2])
        unfold vc
        dsimp only
        rw[za c0]
        rw[z6 (a:=(List.map qs l,(List.map qs m,(v,((s,k0),(([]:List Term),(acc,qs (t.1,t.2+u.2)))))))) (by
         rw[zc (fun _ _=>⟨i0 t l,i0 u m⟩),z8 (by rw[ln,lp,n0,n0]; show(false||(true&&decide (t.1<u.1)))=false; rw[decide_eq_false c1]; rfl),zc (fun _=>⟨i0 u m,i0 t l⟩),z8 (by rw[ln,n0,n0]; show(false||decide (u.1<t.1))=false; rw[decide_eq_false c2]; rfl),zc (i0 t l),zc (i0 t l),zc (i0 u m),n0,n0]
         show(T.bind (lJ (xj t.2) (xj u.2)) _).run=_
         rw[z6 Jb,zc (s1 t l),zc (s1 u m),ze _ rfl rfl rfl,ze _ rfl rfl rfl,zx _ rfl,zx _ rfl,z7,mI,mI]
         rfl)]
        exact lay l m t.1 (t.2+u.2) (by omega)
 obtain⟨v,hL⟩:=key (a.1.length+b.1.length) a.1 b.1 [] (0,eC) (xj (a.2+b.2)) (by omega) (by simp; omega) ha.2 hb.2
 rw[List.nil_append]at hL
 unfold tg
 show(T.bind (lJ (xj a.2) (xj b.2)) _).run=_
 rw[z6 hm,ze _ rfl rfl rfl,ze _ rfl rfl rfl,zx _ rfl,zx _ rfl]
 have hL:(o6 ((qO s a).2.1,((qO s2 b).2.1,(((0:Int),(false,(([]:List Int),(([]:List Int),())))),(((qO s a).1,((xj (a.2+b.2)).1,((xj (a.2+b.2)).2.1,((xj (a.2+b.2)).2.2.1,())))),(([]:List Term),([]:List Term))))))).run=some (v,((s,xj (a.2+b.2)),(([]:List Term),(ml (a.1.length+b.1.length) a.1 b.1).map qs))):=hL
 rw[z6 hL]
 dsimp only
 rw[zx _ rfl,z7,Nat.zero_add,List.take_length,List.drop_zero]
 rfl
abbrev VV:AC:=([],0)
def zC:wg:=((0:Int),(([]:List Term),((false,(([]:List Int),(([]:List Int),()))),())))
def gC(r:AC×Int):wg×Int:=(if r.2=0 then qO 0 r.1 else zC,r.2)
theorem uz{k m:Nat}{c:AC}(h:VT k c)(hk:k≤m):VT m c:=⟨Nat.le_trans h.1 hk,fun t ht=>Nat.le_trans (h.2 t ht) hk⟩
theorem tK{v:Int}{q:Q}{t:Int×Q}(h:t∈ug v q):t.2=q:=by
 unfold ug at h
 split at h
 ·cases h
 ·rw[List.mem_singleton]at h; rw[h]
theorem OL{b:Q}{k j:Nat}(hb:xw b≤j):∀ {l:List (Int×Q)},(∀ t∈l,xw t.2≤k)→∀ t∈QF b l,xw t.2≤k+j
 | [],_,t,h=>by cases h
 | u::r,hl,t,h=>by
  have h:t∈ug u.1 (u.2*b)++QF b r:=h
  rcases List.mem_append.1 h with h | h
  ·rw[tK h]
   have:=QU u.2 b
   have:=hl u List.mem_cons_self
   omega
  ·exact OL hb (fun x hx=>hl x (List.mem_cons_of_mem _ hx)) t h
theorem lU{b:Q}{k j:Nat}{c:AC}(hb:xw b≤j)(h:VT k c):VT (k+j) (HF b c):=by
 refine⟨?_,OL hb h.2⟩
 have:=QU c.2 b
 have:=h.1
 show xw (c.2*b)≤k+j
 omega
theorem Wh{k j:Nat}:∀ (n:Nat) (l m:List (Int×Q)),(∀ t∈l,xw t.2≤k)→(∀ t∈m,xw t.2≤j)→∀ t∈ml n l m,xw t.2≤k+j+1
 | 0,_,_,_,_,t,h=>by cases h
 | n+1,[],[],_,_,t,h=>by cases h
 | n+1,u::r,[],hl,hm,t,h=>by
  have h:t∈ug u.1 u.2++ml n r []:=h
  rcases List.mem_append.1 h with h | h
  ·rw[tK h]; have:=hl u List.mem_cons_self; omega
  ·exact Wh n r [] (fun x hx=>hl x (List.mem_cons_of_mem _ hx)) hm t h
 | n+1,[],u::m,hl,hm,t,h=>by
  have h:t∈ug u.1 u.2++ml n [] m:=h
  rcases List.mem_append.1 h with h | h
  ·rw[tK h]; have:=hm u List.mem_cons_self; omega
  ·exact Wh n [] m hl (fun x hx=>hm x (List.mem_cons_of_mem _ hx)) t h
 | n+1,u::r,w::m,hl,hm,t,h=>by
  have h:t∈(if u.1<w.1 then ug u.1 u.2++ml n r (w::m)else if w.1<u.1 then ug w.1 w.2++ml n (u::r) m else ug u.1 (u.2+w.2)++ml n r m):=h
  have h1:=hl u List.mem_cons_self
  have h2:=hm w List.mem_cons_self
  have IS:∀ t∈r,xw t.2≤k:=fun x hx=>hl x (List.mem_cons_of_mem _ hx)
  have hm':∀ t∈m,xw t.2≤j:=fun x hx=>hm x (List.mem_cons_of_mem _ hx)
  split at h
  ·rcases List.mem_append.1 h with h | h
   ·rw[tK h]; omega
   ·exact Wh n r (w::m) IS hm t h
  ·split at h
   ·rcases List.mem_append.1 h with h | h
    ·rw[tK h]; omega
    ·exact Wh n (u::r) m hl hm' t h
   ·rcases List.mem_append.1 h with h | h
    ·rw[tK h]; have:=XS u.2 w.2; omega
    ·exact Wh n r m IS hm' t h
theorem FT{k j:Nat}{a b:AC}(ha:VT k a)(hb:VT j b):VT (k+j+1) (adC a b):=by
 refine⟨?_,Wh _ _ _ ha.2 hb.2⟩
 have:=XS a.2 b.2
 have:=ha.1
 have:=hb.1
 show xw (a.2+b.2)≤k+j+1
 omega
theorem lq:∀ (n:Nat) (l m:List (Int×Q)),(ml n l m).length≤l.length+m.length
 | 0,_,_=>by show 0≤_; omega
 | n+1,[],[]=>Nat.le_refl _
 | n+1,u::r,[]=>by
  show(ug u.1 u.2++ml n r []).length≤_
  have:=cQ u.1 u.2
  have:=lq n r []
  rw[List.length_append,List.length_cons]; omega
 | n+1,[],u::m=>by
  show(ug u.1 u.2++ml n [] m).length≤_
  have:=cQ u.1 u.2
  have:=lq n [] m
  rw[List.length_append,List.length_cons]; omega
 | n+1,u::r,w::m=>by
  show(if u.1<w.1 then ug u.1 u.2++ml n r (w::m)else if w.1<u.1 then ug w.1 w.2++ml n (u::r) m else ug u.1 (u.2+w.2)++ml n r m).length≤_
  have h1:=lq n r (w::m)
  have h2:=lq n (u::r) m
  have h3:=lq n r m
  simp only[List.length_cons]at h1 h2 ⊢
  split
  ·have:=cQ u.1 u.2; rw[List.length_append]; omega
  ·split
   ·have:=cQ w.1 w.2; rw[List.length_append]; omega
   ·have:=cQ u.1 (u.2+w.2); rw[List.length_append]; omega
def Z3(k:Int)(a b:AC):AC×Int :=
 if k=3 then(adC a b,0)else if k=4 then(adC a (HF (-1) b),0)
 else if k=5 then(if a.1≠[]∧b.1≠[]then(VV,6)else if a.1≠[]then(HF b.2 a,0)else(HF a.2 b,0))
 else(if b.1≠[]then(VV,6)else if b.2=0 then(VV,7)else(HF (1 / b.2) a,0))
theorem GJ:xw (1:Q)=1:=by
 unfold xw
 show max (zF 1).length (zF 1).length=1
 rw[VF]; rfl
theorem cG:xw (-1:Q)=1:=by rw[RT,GJ]
theorem UR(q:Q):xw (1 / q)≤xw q:=by
 have:=PN q
 rwa [Rat.div_def,Rat.one_mul]
theorem y9(c:AC):decide ((0:Int)<(Nat.cast (List.length (qO 0 c).2.1):Int))=decide (c.1≠[]):=by
 show decide ((0:Int)<(Nat.cast (List.length (c.1.map qs)):Int))=_
 rw[List.length_map]
 refine decide_eq_decide.2 ?_
 cases c.1 with
 | nil=>simp
 | cons x r=>simp
theorem JS:(uY (-1:Int)).run=some (xj (-1:Q)):=dM (-1) ⟨by omega,by omega⟩
theorem BA:(uY (1:Int)).run=some (xj (1:Q)):=dM 1 ⟨by omega,by omega⟩
theorem KN:(wa (-1:Int)).run=some (xj (-1:Q)):=gT (-1) ⟨by omega,by omega⟩
theorem D9:(wa (1:Int)).run=some (xj (1:Q)):=gT 1 ⟨by omega,by omega⟩
theorem Ez(k:Int)(a b:AC)(hk:k=3∨k=4∨k=5∨k=6)(ha:VT 400000 a)(hb:VT 400000 b)(la:a.1.length≤400000)(lb:b.1.length≤400000):(nL k (qO 0 a) (qO 0 b)).run=some (gC (Z3 k a b)):=by
 have BO:=uz ha (by omega:400000≤1000000)
 have Zf:=uz hb (by omega:400000≤1000000)
 have m1:=cG
 unfold nL Z3
 by_cases k3:k=3
 ·rw[if_pos k3,za (by simpa using k3),z6 (rJ 0 0 a b BO Zf (by omega) (by omega)),z7]
  rfl
 ·rw[if_neg k3,z8 (by simpa using k3)]
  by_cases k4:k=4
  ·have hs:=lU (b := -1) (j:=1) (by omega) hb
   have hl:=bS (-1) b.1
   rw[if_pos k4,za (by simpa using k4),z6 JS,z6 (jo (-1) 0 b (by omega) Zf (by omega)),z6 (rJ 0 0 a (HF (-1) b) BO (uz hs (by omega)) (by omega) (by show(QF (-1) b.1).length≤1000000; omega)),z7]
   rfl
  ·rw[if_neg k4,z8 (by simpa using k4)]
   by_cases k5:k=5
   ·rw[if_pos k5,za (by simpa using k5),y9,y9]
    by_cases c:a.1≠[]∧b.1≠[]
    ·rw[if_pos c,za (by rw[decide_eq_true c.1,decide_eq_true c.2]; rfl),z7]; rfl
    ·rw[if_neg c,z8 (by by_cases h:a.1≠[]; rw[decide_eq_false (fun h2=>c ⟨h,h2⟩),Bool.and_false]; rw[decide_eq_false h]; rfl)]
     by_cases c2:a.1≠[]
     ·rw[if_pos c2,za (decide_eq_true c2)]
      show(T.bind (uF (qO 0 a) (xj b.2)) _).run=_
      rw[z6 (jo b.2 0 a (by have:=hb.1; omega) BO (by omega)),z7]; rfl
     ·rw[if_neg c2,z8 (decide_eq_false c2)]
      show(T.bind (uF (qO 0 b) (xj a.2)) _).run=_
      rw[z6 (jo a.2 0 b (by have:=ha.1; omega) Zf (by omega)),z7]; rfl
   ·have B6:=hb.1
    have hd:=Ct (xj 1) (xj b.2) (qT (by rw[GJ]; omega)) (qT (by omega))
    rw[vg,vg]at hd
    rw[if_neg k5,z8 (by simpa using k5),z6 BA]
    show(T.bind (XL (xj 1) (xj b.2)) _).run=_
    rw[z6 hd]
    by_cases c:b.1≠[]
    ·rw[if_pos c]
     by_cases z:b.2=0
     ·rw[if_pos z]; dsimp only; rw[y9,za (decide_eq_true c),z7]; rfl
     ·rw[if_neg z]; dsimp only; rw[y9,za (decide_eq_true c),z7]; rfl
    ·rw[if_neg c]
     by_cases z:b.2=0
     ·rw[if_pos z,if_pos z]; dsimp only; rw[y9,z8 (decide_eq_false c),za (by rfl),z7]; rfl
     ·have:=UR b.2
      rw[if_neg z,if_neg z]; dsimp only
      rw[y9,z8 (decide_eq_false c),z8 (by rfl),z6 (jo (1 / b.2) 0 a (by omega) BO (by omega)),z7]; rfl
def Zo(X:List Rat)(j:Int):Q:=if j.toNat<X.length then val (nth X j (zb zJ))else 0
def mE(v:zK)(s:zf):AC×Int :=
 if 0≤PL.vL (zH s) 0 v.1 then(([(PL.vL (zH s) 0 v.1,1)],0),0)
 else if PL.vL (zH s) 0 v.2.1<0 then(VV,5)else(([],Zo v.2.2.1 (PL.vL (zH s) 0 v.2.1)),0)
structure gI(v:zK):Prop where
 l1:v.1.length≤100000
 l2:v.2.1.length≤100000
 l3:v.2.2.1.length≤100000
 ok:∀ x∈v.2.2.1,xf 100 x
theorem DO{α:Type}(p:α→Bool)(l:List α):PL.vL p 0 l = -1∨(0≤PL.vL p 0 l∧PL.vL p 0 l<l.length):=by
 have:=PL.OD p l 0 (Int.le_refl 0)
 omega
theorem Nd{v:zK}(h:gI v)(j:Int)(hj:0≤j):(tx v.2.2.1 j).run=some (xj (Zo v.2.2.1 j)):=by
 unfold tx Zo
 by_cases c:j.toNat<v.2.2.1.length
 ·rw[if_pos c,z8 (by rw[decide_eq_false (by omega),decide_eq_false (by omega)]; rfl),zc ⟨hj,by omega⟩]
  have hm:nth v.2.2.1 j (zb zJ)∈v.2.2.1:=by
   unfold nth
   rw[List.getD_eq_getElem?_getD,List.getElem?_eq_getElem c]
   exact List.getElem_mem c
  rw[z6 (jl _ (xR (h.ok _ hm) (by omega))),z7,xl]
 ·have h0:(uY (0:Int)).run=some (xj (0:Q)):=dM 0 ⟨by omega,by omega⟩
  rw[if_neg c,za (by rw[decide_eq_false (by omega),decide_eq_true (by omega)]; rfl),z6 h0,z7]
theorem N5{v:zK}(h:gI v)(j:Int):xw (Zo v.2.2.1 j)≤100:=by
 unfold Zo
 split
 ·rename_i c
  have hm:nth v.2.2.1 j (zb zJ)∈v.2.2.1:=by
   unfold nth
   rw[List.getD_eq_getElem?_getD,List.getElem?_eq_getElem c]
   exact List.getElem_mem c
  exact uH (by omega) (h.ok _ hm)
 ·rw[tu]; omega
theorem MF{v:zK}(h:gI v)(s:zf):(sS s v).run=some (gC (mE v s)):=by
 have h1:(qx v.1 s).run=some (PL.vL (zH s) 0 v.1):=Z1 v.1 s (by have:=h.l1; omega)
 have h2:(qx v.2.1 s).run=some (PL.vL (zH s) 0 v.2.1):=Z1 v.2.1 s (by have:=h.l2; omega)
 have h0:(uY (0:Int)).run=some (xj (0:Q)):=dM 0 ⟨by omega,by omega⟩
 unfold sS mE
 rw[z6 h1]
 by_cases c:0≤PL.vL (zH s) 0 v.1
 ·rw[if_pos c,za (decide_eq_true c),z6 BA,z6 h0,z7]
  rfl
 ·rw[if_neg c,z8 (decide_eq_false c),z6 h2]
  by_cases c2:PL.vL (zH s) 0 v.2.1<0
  ·rw[if_pos c2,za (decide_eq_true c2),z7]; rfl
  ·rw[if_neg c2,z8 (decide_eq_false c2),z6 (Nd h _ (by omega)),z7]
   rfl
def z4Z(k:Int):List (AC×Int)→AC×Int
 | [a]=>if a.2≠0 then(VV,a.2)else(HF (-1) a.1,0)
 | [a,b]=>if a.2≠0 then(VV,a.2)else if b.2≠0 then(VV,b.2)else Z3 k a.1 b.1
 | _=>(VV,0)
mutual
def mb(v:zK):Expr→AC×Int
 | .mk k n s l=>if k=1 then(([],val n),0)else if k=2 then mE v s else z4Z k (ofL v l)
def ofL(v:zK):List Expr→List (AC×Int)
 | []=>[]
 | e::r=>mb v e::ofL v r
end
theorem F1(v:zK)(k:Int)(n:Rat)(s:zf)(l:List Expr):mb v (.mk k n s l)=if k=1 then(([],val n),0)else if k=2 then mE v s else z4Z k (ofL v l):=rfl
structure SzA(m:Nat)(r:AC×Int):Prop where
 sz:VT (202*m) r.1
 len:r.1.1.length≤m
theorem tY{m:Nat}(hm:1≤m)(x:Int):SzA m (VV,x):=⟨⟨by rw[tu]; omega,fun t ht=>by cases ht⟩,by show 0≤m; omega⟩
theorem RW(k:Int){a b:AC}{m j:Nat}(ha:VT (202*m) a)(hb:VT (202*j) b)(la:a.1.length≤m)(lb:b.1.length≤j):SzA (1+(m+j)) (Z3 k a b):=by
 have m1:=cG
 unfold Z3
 by_cases k3:k=3
 ·rw[if_pos k3]
  exact⟨uz (FT ha hb) (by omega),by have:=lq (a.1.length+b.1.length) a.1 b.1; show(ml (a.1.length+b.1.length) a.1 b.1).length≤_; omega⟩
 ·rw[if_neg k3]
  by_cases k4:k=4
  ·rw[if_pos k4]
   have hs:=lU (b := -1) (j:=1) (by omega) hb
   have hl:=bS (-1) b.1
   exact⟨uz (FT ha hs) (by omega),by have:=lq (a.1.length+(QF (-1) b.1).length) a.1 (QF (-1) b.1); show(ml (a.1.length+(QF (-1) b.1).length) a.1 (QF (-1) b.1)).length≤_; omega⟩
  ·rw[if_neg k4]
   by_cases k5:k=5
   ·rw[if_pos k5]
    split
    ·exact tY (by omega) _
    ·split
     ·exact⟨uz (lU hb.1 ha) (by omega),by have:=bS b.2 a.1; show(QF b.2 a.1).length≤_; omega⟩
     ·exact⟨uz (lU ha.1 hb) (by omega),by have:=bS a.2 b.1; show(QF a.2 b.1).length≤_; omega⟩
   ·rw[if_neg k5]
    split
    ·exact tY (by omega) _
    ·split
     ·exact tY (by omega) _
     ·have:=UR b.2
      have:=hb.1
      exact⟨uz (lU (j:=202*j) (by omega) ha) (by omega),by have:=bS (1 / b.2) a.1; show(QF (1 / b.2) a.1).length≤_; omega⟩
theorem SZ{v:zK}(hv:gI v)(s:zf):SzA 1 (mE v s):=by
 unfold mE
 split
 ·refine⟨⟨by rw[tu]; omega,fun t ht => ?_⟩,Nat.le_refl _⟩
  rw[List.mem_singleton]at ht
  rw[ht]
  show xw (1:Q)≤_
  rw[GJ]; omega
 ·split
  ·exact tY (by omega) _
  ·exact⟨⟨by have:=N5 hv (PL.vL (zH s) 0 v.2.1); show xw (Zo v.2.2.1 (PL.vL (zH s) 0 v.2.1))≤_; omega,fun t ht=>by cases ht⟩,Nat.zero_le _⟩
theorem JL(k:Int)(n:Rat)(s:zf)(a:Expr):wv (.mk k n s [a])=1+wv a:=rfl
theorem Qg(k:Int)(n:Rat)(s:zf)(a b:Expr):wv (.mk k n s [a,b])=1+(wv a+wv b):=rfl
theorem Tn(e:Expr):1≤wv e:=by cases e; unfold wv; omega
theorem We{d:Nat}{k:Int}{n:Rat}{s:zf}{l:List Expr}(ho:vf d (.mk k n s l)=true):k=1∨k=2∨(k=7∧∃ a,l=[a]∧vf (d+1) a=true)∨((k=3∨k=4∨k=5∨k=6)∧∃ a b,l=[a,b]∧vf (d+1) a=true∧vf (d+1) b=true):=by
 obtain⟨hk,hl⟩:=QX ho
 by_cases h1:k=1
 ·exact .inl h1
 ·by_cases h2:k=2
  ·exact .inr (.inl h2)
  ·rcases B4 hk h1 h2 with⟨h7,a,rfl⟩ | ⟨h36,a,b,rfl⟩
   ·have hl:(vf (d+1) a&&kQ (d+1) [])=true:=hl
    rw[Bool.and_eq_true]at hl
    exact .inr (.inr (.inl ⟨h7,a,rfl,hl.1⟩))
   ·have hl:(vf (d+1) a&&(vf (d+1) b&&kQ (d+1) []))=true:=hl
    rw[Bool.and_eq_true,Bool.and_eq_true]at hl
    exact .inr (.inr (.inr ⟨h36,a,b,rfl,hl.1,hl.2.1⟩))
theorem ZQ{v:zK}(hv:gI v):∀ (m:Nat) (e:Expr) (d:Nat),wv e≤m→vf d e=true→allOk e→SzA (wv e) (mb v e):=by
 intro m
 induction m with
 | zero=>intro e d hm; have:=Tn e; omega
 | succ m ih =>
  intro e d hm ho ha
  have hp:=Tn e
  cases e with | mk k n s l =>
  rw[F1]
  rcases We ho with rfl | rfl | ⟨rfl,a,rfl,Dn⟩ | ⟨hk,a,b,rfl,Dn,hob⟩
  ·rw[if_pos rfl]
   have:=uH (by omega) ha.1
   exact⟨⟨by show xw (val n)≤_; omega,fun t ht=>by cases ht⟩,Nat.zero_le _⟩
  ·rw[if_neg (by decide),if_pos rfl]
   have:=SZ hv s
   exact⟨uz this.sz (by omega),Nat.le_trans this.len hp⟩
  ·rw[if_neg (by decide),if_neg (by decide)]
   rw[JL]at hm ⊢
   have ka:=ih a (d+1) (by omega) Dn ha.2.1
   show SzA _ (if(mb v a).2≠0 then(VV,(mb v a).2)else(HF (-1) (mb v a).1,0))
   split
   ·exact tY (by omega) _
   ·have m1:=cG
    have hl:=bS (-1) (mb v a).1.1
    have:=ka.len
    exact⟨uz (lU (b := -1) (j:=1) (by omega) ka.sz) (by omega),by show(QF (-1) (mb v a).1.1).length≤_; omega⟩
  ·rw[if_neg (by omega),if_neg (by omega)]
   rw[Qg]at hm ⊢
   have ka:=ih a (d+1) (by omega) Dn ha.2.1
   have kb:=ih b (d+1) (by omega) hob ha.2.2.1
   show SzA _ (if(mb v a).2≠0 then(VV,(mb v a).2)else if(mb v b).2≠0 then(VV,(mb v b).2)else Z3 k (mb v a).1 (mb v b).1)
   split
   ·exact tY (by omega) _
   ·split
    ·exact tY (by omega) _
    ·exact RW k ka.sz kb.sz ka.len kb.len
theorem wq{a:AC}{x:Int}(h:x≠0):gC (a,x)=(zC,x):=by unfold gC; rw[if_neg h]
theorem jh(a:AC):gC (a,0)=(qO 0 a,0):=by unfold gC; rw[if_pos rfl]
theorem Bx{v:zK}(hv:gI v)(e:Expr)(d:Nat)(ho:vf d e=true)(ha:allOk e)(hn:wv e≤1000):(Uh e v).run=some (gC (mb v e)):=by
 unfold Uh
 refine y4 (fun x:Expr×zK=>(∃ d,vf d x.1=true)∧allOk x.1∧wv x.1≤1000∧x.2=v) (fun x=>wv x.1) (fun x=>gC (mb v x.1)) (fun x hx g hg => ?_) (x:=(e,v)) ⟨⟨d,ho⟩,ha,hn,rfl⟩
 obtain⟨e,v'⟩:=x
 obtain⟨⟨d,ho⟩,ha,hn,LS⟩:=hx
 dsimp only at ho ha hn LS ⊢
 subst LS
 cases e with | mk k n s l =>
 rw[F1]
 unfold tb
 rw[show Expr.kind (.mk k n s l)=k from rfl,show Expr.kids (.mk k n s l)=l from rfl,show Expr.num (.mk k n s l)=n from rfl,show Expr.name (.mk k n s l)=s from rfl]
 rcases We ho with rfl | rfl | ⟨rfl,a,rfl,Dn⟩ | ⟨hk,a,b,rfl,Dn,hob⟩
 ·rw[if_pos rfl,za (by rfl),z6 (jl n (xR ha.1 (by omega))),z7,xl]; rfl
 ·rw[if_neg (by decide),if_pos rfl,z8 (by rfl),za (by rfl),z6 (MF hv s),z7]
 ·rw[JL]at hn
  have hr:=hg (a,v') ⟨⟨_,Dn⟩,ha.2.1,by show wv a≤1000; omega,rfl⟩ (by show wv a<wv (.mk 7 n s [a]); rw[JL]; omega)
  have ka:=ZQ hv (wv a) a (d+1) (Nat.le_refl _) Dn ha.2.1
  dsimp only at hr
  rw[if_neg (by decide),if_neg (by decide),z8 (by rfl),z8 (by rfl),zc ⟨by omega,by simp⟩,show nth [a] (0:Int) (zb .expr)=a from rfl,z6 hr]
  show _=some (gC (if(mb v' a).2≠0 then(VV,(mb v' a).2)else(HF (-1) (mb v' a).1,0)))
  generalize mb v' a=A at *
  obtain⟨A1,A2⟩:=A
  have kl:=ka.len
  dsimp only at ka kl ⊢
  by_cases c:A2≠0
  ·rw[if_pos c,wq c,wq c]
   dsimp only
   rw[za (by simpa using c),z7]; rfl
  ·have:A2=0:=by simpa using c
   subst this
   have m1:=cG
   rw[if_neg (by decide),jh,jh]
   dsimp only
   rw[z8 (by rfl),za (by rfl),z6 JS,z6 (jo (-1) 0 A1 (by omega) (uz ka.sz (by omega)) (by omega)),z7]
 ·rw[Qg]at hn
  have hra:=hg (a,v') ⟨⟨_,Dn⟩,ha.2.1,by show wv a≤1000; omega,rfl⟩ (by show wv a<wv (.mk k n s [a,b]); rw[Qg]; omega)
  have hrb:=hg (b,v') ⟨⟨_,hob⟩,ha.2.2.1,by show wv b≤1000; omega,rfl⟩ (by show wv b<wv (.mk k n s [a,b]); rw[Qg]; omega)
  have ka:=ZQ hv (wv a) a (d+1) (Nat.le_refl _) Dn ha.2.1
  have kb:=ZQ hv (wv b) b (d+1) (Nat.le_refl _) hob ha.2.2.1
  dsimp only at hra hrb
  have k1:(k==1)=false:=by rw[beq_eq_false_iff_ne]; omega
  have k2:(k==2)=false:=by rw[beq_eq_false_iff_ne]; omega
  have k7:(k==7)=false:=by rw[beq_eq_false_iff_ne]; omega
  rw[if_neg (by omega),if_neg (by omega),z8 k1,z8 k2,zc ⟨by omega,by simp⟩,show nth [a,b] (0:Int) (zb .expr)=a from rfl,show nth [a,b] (1:Int) (zb .expr)=b from rfl,z6 hra]
  show _=some (gC (if(mb v' a).2≠0 then(VV,(mb v' a).2)else if(mb v' b).2≠0 then(VV,(mb v' b).2)else Z3 k (mb v' a).1 (mb v' b).1))
  generalize mb v' a=A at *
  generalize mb v' b=B at *
  obtain⟨A1,A2⟩:=A
  obtain⟨B1,B2⟩:=B
  have kl:=ka.len
  have kl2:=kb.len
  dsimp only at ka kb kl kl2 ⊢
  by_cases c:A2≠0
  ·rw[if_pos c,wq c,wq c]
   dsimp only
   rw[za (by simpa using c),z7]; rfl
  ·have:A2=0:=by simpa using c
   subst this
   rw[if_neg (by decide),jh]
   dsimp only
   rw[z8 (by rfl),z8 k7,zc ⟨by omega,by simp⟩,z6 hrb]
   by_cases c2:B2≠0
   ·rw[if_pos c2,wq c2,wq c2]
    dsimp only
    rw[za (by simpa using c2),z7]; rfl
   ·have:B2=0:=by simpa using c2
    subst this
    rw[if_neg (by decide),jh]
    dsimp only
    rw[z8 (by rfl),z6 (Ez k A1 B1 hk (uz ka.sz (by omega)) (uz kb.sz (by omega)) (by omega) (by omega)),z7]
end Go.AM.Lf
