/-
  Plain laws of the lifted program, part 1.
-/
import Derived.Test.YtbafdjlefhlefaaGreatDoorLf1
import Derived.Test.YtbafdjlefhlefaaGreatDoorAmA
import Derived.Test.YtbafdjlefhlefaaGreatDoorAmD
import Derived.Test.YtbafdjlefhlefaaGreatDoorQ0
set_option linter.unusedVariables false
open Go.AM.T (jD kS mW nC qI qT qh ud yk z6 z7 z8 zA zD zM za zc ze zr zx)
namespace Go.AM.Lf
open PL
def val(a:Rat):Q:=qv a.1 (nv a.2.1) (nv a.2.2.1)
theorem Xb(b:Bool)(n d:Nat):kO b n d=xn (qv b n d):=by
 unfold kO
 by_cases h:n=0∨d=0
 ·rw[if_pos h]
  rcases h with h | h
  ·subst h; rw[Bo,Cy]
  ·subst h; rw[WN,Cy]
 ·rw[if_neg h,z5j _ _ _ (fun z=>h (.inl z)) (fun z=>h (.inr z))]
theorem xw(a:Rat):norm a=xn (val a):=Xb _ _ _
theorem vI(q:Q):val (xn q)=q:=z5P q
theorem xa{q:Q}{k:Nat}(h:xz q≤k):xd k (xn q) :=
 ⟨zp _,zp _,Nat.le_trans (wV q) h,Nat.le_trans (wj q) h⟩
theorem uM{a:Rat}{k:Nat}(hk:1≤k)(h:xd k a):xz (val a)≤k :=
 EY _ _ _ k hk (Nat.le_trans (zT h.1) h.2.2.1) (Nat.le_trans (zT h.2.1) h.2.2.2)
theorem cZ(neg:Bool)(n d:Nat)(ln:(zH n).length≤100000000)(ld:(zH d).length≤100000000):(cz neg (zH n) (zH d)).run=some (xn (qv neg n d)):=by
 have:=Vg neg (zH n) (zH d) (zp _) (zp _) ln ld
 rwa [zO,zO,Xb]at this
theorem uX(m n:Nat)(lm:(zH m).length≤1000000000)(ln:(zH n).length≤1000000000):(uC (zH m) (zH n)).run=some (zH (m*n)):=by
 have:=oz (zH m) (zH n) (zp _) (zp _) lm ln
 rwa [zO,zO]at this
theorem GI(m n:Nat)(lm:(zH m).length≤1000000000)(ln:(zH n).length≤1000000000):(mw (zH m) (zH n)).run=some (zH (m+n)):=by
 have:=Qh (zH m) (zH n) (zp _) (zp _) lm ln
 rwa [zO,zO]at this
theorem Xo(m n:Nat)(h:n≤m)(lm:(zH m).length≤1000000000)(ln:(zH n).length≤1000000000):(fH (zH m) (zH n)).run=some (zH (m-n),true):=by
 have:=XI (zH m) (zH n) (zp _) (zp _) lm ln
 rwa [zO,zO,if_neg (by omega)]at this
theorem GP(m n:Nat)(lm:(zH m).length≤1000000000)(ln:(zH n).length≤1000000000):(iF (zH m) (zH n)).run=some (iC m n):=by
 have:=oe (zH m) (zH n) (zp _) (zp _) lm ln
 rwa [zO,zO]at this
theorem GF(a b:Rat)(ha:xd 10000000 a)(hb:xd 10000000 b):(dx a b).run=some (xn (val a+val b)):=by
 unfold dx
 rw[z6 (xO a (xT ha (by omega))),z6 (xO b (xT hb (by omega))),xw,xw]
 have la:=uM (by omega) ha
 have lb:=uM (by omega) hb
 rw[TU]
 generalize val a=p at *
 generalize val b=q at *
 simp only[oa,jG,eH]
 have l1:=wV p; have l2:=wj p; have l3:=wV q; have l4:=wj q
 have m1:=xe p.num.natAbs q.den
 have m2:=xe q.num.natAbs p.den
 have m3:=xe p.den q.den
 rw[z6 (uX _ _ (by omega) (by omega)),z6 (uX _ _ (by omega) (by omega)),z6 (uX _ _ (by omega) (by omega))]
 have m4:=sA (p.num.natAbs*q.den) (q.num.natAbs*p.den) 20000000 (by omega) (by omega)
 generalize p.num.natAbs*q.den=x at *
 generalize q.num.natAbs*p.den=y at *
 generalize p.den*q.den=z at *
 by_cases c:decide (p.num<0)=decide (q.num<0)
 ·rw[za (by simp[c]),z6 (GI _ _ (by omega) (by omega)),z6 (cZ _ _ _ (by omega) (by omega)),z7,dX,Mu,c]
 ·rw[z8 (by simpa using c),z6 (GP _ _ (by omega) (by omega))]
  by_cases g:y≤x
  ·have e:decide ((0:Int)≤iC x y)=true:=decide_eq_true (by unfold iC; rw[if_neg (by omega)]; split<;>omega)
   have:=hJ (Nat.sub_le x y)
   rw[za e,z6 (Xo _ _ g (by omega) (by omega))]
   simp only
   rw[z6 (cZ _ _ _ (by omega) (by omega)),z7,dX,Uc _ _ _ _ c g]
  ·have e:decide ((0:Int)≤iC x y)=false:=decide_eq_false (by unfold iC; rw[if_pos (by omega)]; omega)
   have:=hJ (Nat.sub_le y x)
   rw[z8 e,z6 (Xo _ _ (by omega) (by omega) (by omega))]
   simp only
   rw[z6 (cZ _ _ _ (by omega) (by omega)),z7,dX,Uc _ _ _ _ (fun h=>c h.symm) (by omega:x≤y),Int.add_comm]
def Lw(b:Bool):zf:=if b=true then[45]else[]
def Ok(s:zf)(n:Nat):zf:=if n=0 then s else
 (jL [48] (n+1-s.length)++s).take ((jL [48] (n+1-s.length)++s).length-n)++[46]++(jL [48] (n+1-s.length)++s).drop ((jL [48] (n+1-s.length)++s).length-n)
theorem Qf(k:Nat):(jL [48] k).length=k:=by
 induction k with
 | zero=>rfl
 | succ k ih=>simp[jL,ih]
theorem mN(s:zf)(l h:Nat):gU (l:Int) (h:Int) s=(s.take h).drop l:=by unfold gU; simp
theorem Cs(s:zf)(n:Nat)(hn:n≤1000)(hs:s.length≤1000000000):(lD s (n:Int)).run=some (Ok s n):=by
 unfold lD Ok
 by_cases h:n=0
 ·subst h; rw[za (by rfl),z7,if_pos rfl]
 ·rw[z8 (by simp; omega),if_neg h]
  have e1:w7 0 (zt (zt ((n:Int)+1)-(s.length:Int)))=((n+1-s.length:Nat):Int):=by
   rw[i1 n (by omega),zN (by omega) (by omega)]; unfold w7; split<;>omega
  have zgd:(strings_Repeat [48] ((n+1-s.length:Nat):Int)).run=some (jL [48] (n+1-s.length)):=by
   unfold strings_Repeat
   rw[zc ⟨by omega,by omega,by simp; omega⟩,z7,Int.toNat_natCast]
  rw[e1,z6 zgd]
  have hl:=Qf (n+1-s.length)
  simp only[cat]
  generalize hR:jL [48] (n+1-s.length)++s=t
  have htl:t.length=(n+1-s.length)+s.length:=by rw[← hR,List.length_append,hl]
  have e2:zt ((t.length:Int)-(n:Int))=((t.length-n:Nat):Int):=by rw[zN (by omega) (by omega)]; omega
  have c0:gU 0 ((t.length-n:Nat):Int) t=t.take (t.length-n):=by have:=mN t 0 (t.length-n); simpa using this
  have c1:gU ((t.length-n:Nat):Int) (t.length:Int) t=t.drop (t.length-n):=by rw[mN,List.take_length]
  simp only[e2,c0,c1]
  rw[zD _ (by omega),nC _ (by omega) (by omega) (by omega),zD _ (by simp; omega),nC _ (by omega) (by omega) (by omega),zD _ (by simp; omega),z7]
theorem Bg(a:Rat):(sj a).run=some (Lw a.1):=by
 unfold sj Lw; rw[yk]; split<;>rfl
theorem mj(b:Bool):(ff b).run=some (Lw b):=by
 unfold ff Lw; rw[yk]; split<;>rfl
theorem tg(b:Bool):(Lw b).length≤1:=by unfold Lw; split<;>simp
theorem iw(n k:Nat)(h:(zH n).length≤k):(pr n).length≤18*k+1:=by
 unfold pr
 split
 ·simp
 ·obtain⟨z,hz⟩:=Et n
  have h1:=Us n k (qc.1 h)
  have h2:=congrArg List.length hz
  rw[List.length_append]at h2
  rw[ER]
  simp only[qO,List.length_map,List.length_reverse]
  omega
theorem IN(s:zf)(n:Nat):(Ok s n).length≤s.length+n+2:=by
 unfold Ok
 split
 ·omega
 ·have:=Qf (n+1-s.length)
  simp[this]; omega
theorem Ng(k:Nat)(s:zf):jL [48] k++([48]++s)=jL [48] (k+1)++s:=by
 induction k with
 | zero=>rfl
 | succ k ih=>simp only[jL,List.append_assoc]at ih ⊢; rw[ih]
theorem EO(n:List Int)(hn:zu n)(ln:n.length≤1000000)(least:Nat)(hl:least≤100000):(iX n (least:Int)).run=some (jL [48] (least-(pr (nv n)).length)++pr (nv n)):=by
 have QA:=iw (nv n) 1000000 (Nat.le_trans (zT hn) ln)
 have loop:=ud (r:=kz (least:Int)) (fun s:zf=>s.length≤100000000) (fun s=>least-s.length) (fun s=>jL [48] (least-s.length)++s) ?_ (s:=pr (nv n)) (by omega)
 ·have KE:(sF (least:Int) (pr (nv n))).run=_:=loop
  unfold iX
  rw[z6 (fu n hn ln),z6 KE,z7]
 ·intro s hs
  by_cases h:s.length<least
  ·left
   refine⟨[48]++s,?_,by simp; omega,by simp; omega,?_⟩
   ·unfold kz
    rw[za (by simpa using h),zD _ (by simp; omega),z7]; rfl
   ·rw[show least-s.length=(least-([48]++s).length)+1 by simp; omega,← Ng]
  ·right
   unfold kz
   rw[z8 (by simpa using h),z7,show least-s.length=0 by omega]; rfl
theorem z4U(n:Nat):1≤(pr n).length:=by
 unfold pr
 split
 ·simp
 ·rename_i h
  rw[tf h]; simp
theorem My(neg:Bool)(n:Nat)(k:Nat)(hk:k≤1000)(hn:(zH n).length≤100000):(oO neg (zH n) (k:Int)).run=some (Lw (neg&&decide (n≠0))++Ok (pr n) k):=by
 have hd:=EO (zH n) (zp n) (by omega) (k+1) (by omega)
 rw[zO]at hd
 have QA:=iw n 100000 hn
 have hpp:=z4U n
 have hl:=Qf (k+1-(pr n).length)
 have hsg:decide ((0:Int)<((zH n).length:Int))=decide (n≠0):=by
  by_cases c:n=0
  ·subst c; rw[qA]; rfl
  ·have:(zH n).length≠0:=fun h=>c (xI.1 (List.eq_nil_of_length_eq_zero h))
   rw[decide_eq_true (by omega),decide_eq_true c]
 unfold oO
 rw[i1 k (by omega),z6 hd,hsg]
 have hpt:(bif decide ((0:Int)<(k:Int))then cat (cat (gU 0 (zt (((jL [48] (k+1-(pr n).length)++pr n).length:Int)-(k:Int))) (jL [48] (k+1-(pr n).length)++pr n)) [46]) (gU (zt (((jL [48] (k+1-(pr n).length)++pr n).length:Int)-(k:Int))) ((jL [48] (k+1-(pr n).length)++pr n).length:Int) (jL [48] (k+1-(pr n).length)++pr n))else(jL [48] (k+1-(pr n).length)++pr n))=Ok (pr n) k:=by
  unfold Ok
  by_cases c:k=0
  ·subst c
   rw[show decide ((0:Int)<((0:Nat):Int))=false from rfl,cond_false,if_pos rfl,show 0+1-(pr n).length=0 by omega]; rfl
  ·rw[decide_eq_true (by omega),cond_true,if_neg c]
   generalize hR:jL [48] (k+1-(pr n).length)++pr n=t
   have htl:t.length=(k+1-(pr n).length)+(pr n).length:=by rw[← hR,List.length_append,hl]
   have e2:zt ((t.length:Int)-(k:Int))=((t.length-k:Nat):Int):=by rw[zN (by omega) (by omega)]; omega
   have c0:gU 0 ((t.length-k:Nat):Int) t=t.take (t.length-k):=by have:=mN t 0 (t.length-k); simpa using this
   have c1:gU ((t.length-k:Nat):Int) (t.length:Int) t=t.drop (t.length-k):=by rw[mN,List.take_length]
   rw[e2,c0,c1]; rfl
 have XU:=IN (pr n) k
 rw[hpt]
 generalize hR:jL [48] (k+1-(pr n).length)++pr n=t
 have htl:t.length=(k+1-(pr n).length)+(pr n).length:=by rw[← hR,List.length_append,hl]
 have e2:zt ((t.length:Int)-(k:Int))=((t.length-k:Nat):Int):=by rw[zN (by omega) (by omega)]; omega
 rw[zc (fun HT=>by
  have c0:gU 0 ((t.length-k:Nat):Int) t=t.take (t.length-k):=by have:=mN t 0 (t.length-k); simpa using this
  have c1:gU ((t.length-k:Nat):Int) (t.length:Int) t=t.drop (t.length-k):=by rw[mN,List.take_length]
  rw[e2,c0,c1]
  refine⟨⟨by omega,by omega,by omega⟩,by simp; omega,⟨by omega,by omega,by omega⟩,by simp[cat]; omega⟩)]
 cases neg with
 | true =>
  have Ov:=tg (decide (n≠0))
  rw[zA,z6 (mj _),zD _ (by omega),z7,Bool.true_and]; rfl
 | false =>
  have Ov:=tg false
  rw[zr,z6 (mj _),zD _ (by omega),z7,Bool.false_and]; rfl
def xP(neg:Bool)(N D:Nat):Nat→Nat→zf×Bool
 | _,0=>([],false)
 | k,f+1=>if N*10 ^ k % D=0 then(Lw neg++Ok (pr (N*10 ^ k / D)) k,true)else xP neg N D (k+1) f
theorem db(n:Nat):(((zH n).length:Int)==0)=decide (n=0):=by
 by_cases c:n=0
 ·subst c; rw[qA]; rfl
 ·have:(zH n).length≠0:=fun h=>c (xI.1 (List.eq_nil_of_length_eq_zero h))
  rw[decide_eq_false c]; simpa using this
theorem Zc(a:Rat)(h:xd 1000 a):(mO a).run=some (xP (norm a).1 (nv (norm a).2.1) (nv (norm a).2.2.1) 0 61):=by
 have Ba:=nO (by omega) h
 have hD:=UP a.1 (nv a.2.1) (nv a.2.2.1)
 have Po:=j8 a (xT h (by omega))
 unfold mO
 rw[z6 Po]
 change nv (norm a).2.2.1≠0 at hD
 clear Po
 generalize norm a=v at *
 obtain⟨hn,hd,ln,ld⟩:=Ba
 have loop:=ud (r:=kZ) (fun s:Int×Rat=>∃ k:Nat,s=((k:Int),v)∧k≤61) (fun s=>61-s.1.toNat)
  (fun s=>if(xP v.1 (nv v.2.1) (nv v.2.2.1) s.1.toNat (61-s.1.toNat)).2=true then .inr ((xP v.1 (nv v.2.1) (nv v.2.2.1) s.1.toNat (61-s.1.toNat)).1,true,v)else .inl v) ?_ (s:=(0,v)) ⟨0,rfl,by omega⟩
 ·have KE:(X1 (0,v)).run=_:=loop
  rw[z6 KE]
  have hex:∀ f k,(xP v.1 (nv v.2.1) (nv v.2.2.1) k f).2=false→(xP v.1 (nv v.2.1) (nv v.2.2.1) k f).1=[]:=by
   intro f
   induction f with
   | zero=>intro k _; rfl
   | succ f ih =>
    intro k hk
    unfold xP at hk ⊢
    split at hk
    ·cases hk
    ·rename_i c; rw[if_neg c]; exact ih _ hk
  have h2:=hex 61 0
  simp only[Int.toNat_zero,Nat.sub_zero]
  generalize xP v.1 (nv v.2.1) (nv v.2.2.1) 0 61=z at *
  obtain⟨z1,z2⟩:=z
  cases z2 with
  | true=>simp
  | false=>simp at h2 ⊢; exact h2
 ·rintro _ ⟨k,rfl,hk⟩
  simp only[Int.toNat_natCast]
  by_cases qp:k<61
  ·have z55:=Xn k
   have hm:=rq v.2.1 (zH (10 ^ k)) hn (zp _) (by omega) (by omega)
   rw[zO]at hm
   have hml:=Nat.le_trans (IG (nv v.2.1) (10 ^ k)) (Nat.add_le_add (zT hn) z55)
   have SC:=bD (zH (nv v.2.1*10 ^ k)) v.2.2.1 (zp _) hd (by omega) (by omega)
   rw[zO,if_neg hD]at SC
   have hq:=j0 (Nat.div_le_self (nv v.2.1*10 ^ k) (nv v.2.2.1))
   have hpr:=lS (zH (nv v.2.1*10 ^ k / nv v.2.2.1)) (zp _) (by omega)
   rw[zO]at hpr
   have QA:=iw (nv v.2.1*10 ^ k / nv v.2.2.1) 2000 (by omega)
   have XU:=IN (pr (nv v.2.1*10 ^ k / nv v.2.2.1)) k
   have hsl:=tg v.1
   have ef:61-k=(61-(k+1))+1:=by omega
   rw[ef,xP]
   by_cases c:nv v.2.1*10 ^ k % nv v.2.2.1=0
   ·right
    rw[if_pos c,if_pos rfl]
    unfold kZ
    rw[za (decide_eq_true (by omega)),z6 (Wz k (by omega)),z6 hm,z6 SC]
    simp only
    rw[za (by rw[db]; exact decide_eq_true c),z6 (Bg v),z6 hpr,z6 (Cs _ k (by omega) (by omega)),zD _ (by omega),z7]; rfl
   ·left
    rw[if_neg c]
    refine⟨(((k+1:Nat):Int),v),?_,⟨k+1,rfl,by omega⟩,by simp only[Int.toNat_natCast]; omega,by first | trivial | simp only[Int.toNat_natCast]⟩
    unfold kZ
    rw[za (decide_eq_true (by omega)),z6 (Wz k (by omega)),z6 hm,z6 SC]
    simp only
    rw[z8 (by rw[db]; exact decide_eq_false c),z7,i1 k (by omega)]
  ·right
   have:k=61:=by omega
   subst this
   unfold kZ
   rw[z8 (decide_eq_false (by omega)),z7]; rfl
theorem rL(a:Rat)(h:xd 1000 a):(ct a).run=some (xP (norm a).1 (nv (norm a).2.1) (nv (norm a).2.2.1) 0 61):=by
 have Ba:=nO (by omega) h
 have hD:=UP a.1 (nv a.2.1) (nv a.2.2.1)
 have hN:=Ts a.1 (nv a.2.1) (nv a.2.2.1)
 have Po:=xO a (xT h (by omega))
 unfold ct
 rw[z6 Po]
 change nv (norm a).2.2.1≠0 at hD
 change (norm a).1=true→nv (norm a).2.1≠0 at hN
 clear Po
 generalize norm a=v at *
 obtain⟨hn,hd,ln,ld⟩:=Ba
 have loop:=ud (r:=js) (fun s:List Int×Int×Rat=>∃ k:Nat,s=(zH (10 ^ k),(k:Int),v)∧k≤61) (fun s=>61-s.2.1.toNat)
  (fun s=>if(xP v.1 (nv v.2.1) (nv v.2.2.1) s.2.1.toNat (61-s.2.1.toNat)).2=true then .inr ((xP v.1 (nv v.2.1) (nv v.2.2.1) s.2.1.toNat (61-s.2.1.toNat)).1,true,v)else .inl v) ?_ (s:=([1],0,v)) ⟨0,by rw[Nat.pow_zero,lB]; rfl,by omega⟩
 ·have KE:(Zb ([1],0,v)).run=_:=loop
  rw[z6 KE]
  have hex:∀ f k,(xP v.1 (nv v.2.1) (nv v.2.2.1) k f).2=false→(xP v.1 (nv v.2.1) (nv v.2.2.1) k f).1=[]:=by
   intro f
   induction f with
   | zero=>intro k _; rfl
   | succ f ih =>
    intro k hk
    unfold xP at hk ⊢
    split at hk
    ·cases hk
    ·rename_i c; rw[if_neg c]; exact ih _ hk
  have h2:=hex 61 0
  simp only[Int.toNat_zero,Nat.sub_zero]
  generalize xP v.1 (nv v.2.1) (nv v.2.2.1) 0 61=z at *
  obtain⟨z1,z2⟩:=z
  cases z2 with
  | true=>simp
  | false=>simp at h2 ⊢; exact h2
 ·rintro _ ⟨k,rfl,hk⟩
  simp only[Int.toNat_natCast]
  by_cases qp:k<61
  ·have z55:=Xn k
   have hm:=oz v.2.1 (zH (10 ^ k)) hn (zp _) (by omega) (by omega)
   rw[zO]at hm
   have hml:=Nat.le_trans (IG (nv v.2.1) (10 ^ k)) (Nat.add_le_add (zT hn) z55)
   have SC:=yV (zH (nv v.2.1*10 ^ k)) v.2.2.1 (zp _) hd (by omega) (by omega)
   rw[zO,if_neg hD]at SC
   have hq:=j0 (Nat.div_le_self (nv v.2.1*10 ^ k) (nv v.2.2.1))
   have hpt:=My v.1 (nv v.2.1*10 ^ k / nv v.2.2.1) k (by omega) (by omega)
   have h10:=oz (zH (10 ^ k)) [10] (zp _) (by intro x hx; simp at hx; omega) (by omega) (by simp)
   rw[zO,show nv [10]=10 from rfl,← Nat.pow_succ]at h10
   have ef:61-k=(61-(k+1))+1:=by omega
   rw[ef,xP]
   by_cases c:nv v.2.1*10 ^ k % nv v.2.2.1=0
   ·right
    have hsg:(v.1&&decide (nv v.2.1*10 ^ k / nv v.2.2.1≠0))=v.1:=by
     cases hv:v.1 with
     | false=>rfl
     | true =>
      have h1:=hN hv
      have h2:nv v.2.1*10 ^ k≠0:=Nat.mul_ne_zero h1 (Nat.pos_iff_ne_zero.1 (Nat.pow_pos (by omega)))
      have h3:nv v.2.1*10 ^ k / nv v.2.2.1≠0:=by
       intro z
       have:=Nat.div_add_mod (nv v.2.1*10 ^ k) (nv v.2.2.1)
       rw[z,c]at this
       exact h2 this.symm
      rw[decide_eq_true h3]; rfl
    rw[hsg]at hpt
    rw[if_pos c,if_pos rfl]
    unfold js
    rw[za (decide_eq_true (by omega)),z6 hm,z6 SC]
    simp only
    rw[za (by rw[db]; exact decide_eq_true c),z6 hpt,z7]
   ·left
    rw[if_neg c]
    refine⟨(zH (10 ^ (k+1)),((k+1:Nat):Int),v),?_,⟨k+1,rfl,by omega⟩,by simp only[Int.toNat_natCast]; omega,by first | trivial | simp only[Int.toNat_natCast]⟩
    unfold js
    rw[za (decide_eq_true (by omega)),z6 hm,z6 SC]
    simp only
    rw[z8 (by rw[db]; exact decide_eq_false c),z6 h10,z7,i1 k (by omega)]
  ·right
   have:k=61:=by omega
   subst this
   unfold js
   rw[z8 (decide_eq_false (by omega)),z7]; rfl
def ep(a:Rat):zf:=if nv a.2.2.1=1 then Lw a.1++pr (nv a.2.1)else Lw a.1++pr (nv a.2.1)++([47]++pr (nv a.2.2.1))
theorem Yi(a:Rat)(h:xd 1000 a):(mH a).run=some (ep (norm a)):=by
 have Ba:=nO (by omega) h
 have Po:=j8 a (xT h (by omega))
 unfold mH
 rw[z6 Po]
 clear Po
 generalize norm a=v at *
 obtain⟨hn,hd,ln,ld⟩:=Ba
 have Ou:=lS v.2.1 hn (by omega)
 have hpd:=lS v.2.2.1 hd (by omega)
 have Sy:=iw (nv v.2.1) 1000 (Nat.le_trans (zT hn) ln)
 have iM:=iw (nv v.2.2.1) 1000 (Nat.le_trans (zT hd) ld)
 have hsl:=tg v.1
 have h1:(jW 1).run=some (zH 1):=jR 1 (by omega)
 have hc:=lA v.2.2.1 (zH 1) hd (zp _) (by omega) (by rw[lB]; simp)
 rw[zO]at hc
 rw[z6 (Bg v),z6 Ou,zD _ (by omega),z6 h1,z6 hc]
 unfold ep iC
 by_cases c:nv v.2.2.1=1
 ·rw[c,if_pos rfl,if_neg (by omega),if_neg (by omega),z8 (by rfl),z7]; rfl
 ·rw[if_neg c,za (by
   split
   ·rfl
   ·split
    ·rfl
    ·omega),z6 hpd]
  simp only[cat]
  rw[zD _ (by simp; omega),zD _ (by simp; omega),z7]
theorem Ki(a:Rat)(h:xd 1000 a):(oL a).run=some (ep (norm a)):=by
 have Ba:=nO (by omega) h
 have Po:=xO a (xT h (by omega))
 have zdY:∃ D,(norm a).2.2.1=zH D:=by
  unfold norm kO
  split
  ·exact⟨1,lB.symm⟩
  ·exact⟨_,rfl⟩
 unfold oL
 rw[z6 Po]
 clear Po
 generalize norm a=v at *
 obtain⟨hn,hd,ln,ld⟩:=Ba
 obtain⟨D,hD⟩:=zdY
 have Ou:=fu v.2.1 hn (by omega)
 have hpd:=fu v.2.2.1 hd (by omega)
 have Sy:=iw (nv v.2.1) 1000 (Nat.le_trans (zT hn) ln)
 have iM:=iw (nv v.2.2.1) 1000 (Nat.le_trans (zT hd) ld)
 have hsl:=tg v.1
 rw[z6 (mj v.1),z6 Ou,zD _ (by omega)]
 rw[zc (fun hz=>⟨by omega,by simp at hz; omega⟩)]
 have z8H:(((v.2.2.1.length:Int) != 1)||(nth v.2.2.1 0 (zb (.int .u32)) != 1)) = !decide (nv v.2.2.1=1):=by
  rw[hD,zO]
  by_cases c:D=1
  ·subst c; rw[lB]; rfl
  ·rw[decide_eq_false c]
   by_cases z:D=0
   ·subst z; rw[qA]; rfl
   ·rw[y6 z]
    by_cases y:D / 4294967296=0
    ·rw[y,qA]
     have uj:¬ (((D % 4294967296:Nat):Int)=1):=by omega
     have e9:nth [((D % 4294967296:Nat):Int)] 0 (zb (.int .u32))=((D % 4294967296:Nat):Int):=rfl
     rw[e9]
     generalize ((D % 4294967296:Nat):Int)=w at *
     simp[uj]
    ·rw[y6 y]; simp; left; omega
 rw[z8H]
 unfold ep
 by_cases c:nv v.2.2.1=1
 ·rw[if_pos c,decide_eq_true c,z8 (by rfl),z7]; rfl
 ·rw[if_neg c,decide_eq_false c,za (by rfl)]
  simp only[cat]
  rw[zD _ (by simp; omega),z6 hpd,zD _ (by simp; omega),z7]
  simp
end Go.AM.Lf
namespace Go.AM.T
variable {σ ρ α β:Type}
theorem nd{r:σ→T (σ⊕ρ)}(l:List α)(d:α)(e:β→Int→σ)(I:Nat→β→Prop)(g:β→α→β)(fin:β→ρ)
  (step:∀ (k:Nat) (b:β) (x:α),k<l.length→nth l (k:Int) d=x→x∈l→I k b→(r (e b (k:Int))).run=some (.inl (e (g b x) ((k+1:Nat):Int)))∧I (k+1) (g b x))
  (done:∀ b,I l.length b→(r (e b (l.length:Int))).run=some (.inr (fin b))) {b:β} (h0:I 0 b):(loop r (e b 0)).run=some (fin (l.foldl g b))∧I l.length (l.foldl g b):=by
 have key:∀ (n k:Nat) (b:β),n+k=l.length→I k b→(loop r (e b (k:Int))).run=some (fin ((l.drop k).foldl g b))∧I l.length ((l.drop k).foldl g b):=by
  intro n
  induction n with
  | zero =>
   intro k b hk hb
   have:k=l.length:=by omega
   subst this
   rw[List.drop_length]
   exact⟨qh (done b hb),hb⟩
  | succ n ih =>
   intro k b hk hb
   have qp:k<l.length:=by omega
   have hd:l.drop k=l[k]::l.drop (k+1):=List.drop_eq_getElem_cons qp
   have hn:nth l (k:Int) d=l[k]:=by simp[nth,qp]
   obtain⟨h1,h2⟩:=step k b l[k] qp hn (List.getElem_mem qp) hb
   rw[hd,List.foldl_cons,qI h1]
   exact ih (k+1) _ (by omega) h2
 have:=key l.length 0 b (by omega) h0
 simpa using this
theorem oF{r:σ→T (σ⊕ρ)}(l:List α)(d:α)(e:β→Int→σ)(I:Nat→β→Prop)(g:β→α→β)(fin:β→ρ)
  (step:∀ (k:Nat) (b:β) (x:α),k<l.length→nth l (k:Int) d=x→x∈l→I k b→(r (e b (k:Int))).run=some (.inl (e (g b x) ((k+1:Nat):Int)))∧I (k+1) (g b x))
  (done:∀ b,I l.length b→(r (e b (l.length:Int))).run=some (.inr (fin b))) {b:β} (h0:I 0 b):(loop r (e b 0)).run=some (fin (l.foldl g b)) :=
 (nd l d e I g fin step done h0).1
theorem jt{r:σ→T (σ⊕ρ)}(l:List α)(d:α)(e:β→Int→σ)(I:Nat→β→Prop)(f:List α→β→ρ)
  (step:∀ (k:Nat) (b:β) (x:α) (xs:List α),k<l.length→nth l (k:Int) d=x→x∈l→l.drop k=x::xs→I k b →
   (∃ b',(r (e b (k:Int))).run=some (.inl (e b' ((k+1:Nat):Int)))∧I (k+1) b'∧f xs b'=f (x::xs) b)∨(r (e b (k:Int))).run=some (.inr (f (x::xs) b)))
  (done:∀ b,I l.length b→(r (e b (l.length:Int))).run=some (.inr (f [] b))) {b:β} (h0:I 0 b):(loop r (e b 0)).run=some (f l b):=by
 have key:∀ (n k:Nat) (b:β),n+k=l.length→I k b→(loop r (e b (k:Int))).run=some (f (l.drop k) b):=by
  intro n
  induction n with
  | zero =>
   intro k b hk hb
   have:k=l.length:=by omega
   subst this
   rw[List.drop_length]
   exact qh (done b hb)
  | succ n ih =>
   intro k b hk hb
   have qp:k<l.length:=by omega
   have hd:l.drop k=l[k]::l.drop (k+1):=List.drop_eq_getElem_cons qp
   have hn:nth l (k:Int) d=l[k]:=by simp[nth,qp]
   rcases step k b l[k] _ qp hn (List.getElem_mem qp) hd hb with⟨b',h1,h2,h3⟩ | h1
   ·rw[hd,qI h1,← h3]
    exact ih (k+1) _ (by omega) h2
   ·rw[hd]; exact qh h1
 have:=key l.length 0 b (by omega) h0
 simpa using this
end Go.AM.T
namespace Go.AM.PL
theorem vr(k n:Nat)(h:k<n)(hn:n≤4000000000000):zt ((k:Int)+1)=((k+1:Nat):Int):=by rw[zN (by omega) (by omega)]; omega
theorem qL{k n:Nat}(h:k<n):decide ((k:Int)<(n:Int))=true:=decide_eq_true (by omega)
theorem xi(n:Nat):decide ((n:Int)<(n:Int))=false:=decide_eq_false (by omega)
theorem zo{k n:Nat}(h:k<n):zi (k:Int) n:=⟨by omega,by omega⟩
theorem Wn{α:Type}(f:α→zf)(l:List α)(s:zf):l.foldl (fun s x=>s++f x) s=s++l.flatMap f:=by
 induction l generalizing s with
 | nil=>simp
 | cons x l ih=>rw[List.foldl_cons,ih,List.flatMap_cons,List.append_assoc]
theorem ZZ{α β:Type}(f:α→β)(l:List α)(s:List β):l.foldl (fun s x=>s++[f x]) s=s++l.map f:=by
 induction l generalizing s with
 | nil=>simp
 | cons x l ih=>rw[List.foldl_cons,ih,List.map_cons,List.append_assoc]; rfl
theorem uV{α:Type}(f:α→zf)(l:List α)(c:Nat)(h:∀ x∈l,(f x).length≤c):(l.flatMap f).length≤l.length*c:=by
 induction l with
 | nil=>simp
 | cons x l ih =>
  have h1:=h x List.mem_cons_self
  have h2:=ih fun y hy=>h y (List.mem_cons_of_mem _ hy)
  rw[List.flatMap_cons,List.length_append,List.length_cons,Nat.add_mul]; omega
theorem QK{k n c:Nat}(h:k≤n):k*c≤n*c:=Nat.mul_le_mul_right c h
theorem c6(a b:zf):cat a b=a++b:=rfl
theorem qg(a b:zf):(cat a b).length=a.length+b.length:=by rw[c6,List.length_append]
end Go.AM.PL
namespace Go.AM.PL
theorem OD(n:Nat)(h:n≠0):KB n=E7 n:=by
 induction n using Nat.strongRecOn with
 | _ n ih =>
  rw[KB,tf h]
  split
  ·rename_i c
   rw[show n / 10=0 by omega,rH]
   unfold NZ
   rw[show n % 10=n by omega]; rfl
  ·rename_i c
   rw[ih (n / 10) (by omega) (by omega)]; rfl
theorem Ic(n:Nat):KB n=pr n:=by
 unfold pr
 by_cases h:n=0
 ·subst h; rw[KB]; rfl
 ·rw[if_neg h,OD n h]
theorem ni{α:Type}(text:α→T zf)(l:List α)(d:α)(f:α→zf)(c:Nat)(word:zf){r:zf×Int→T ((zf×Int)⊕zf)}
  (hr:∀ w i,r (w,i)=.ite (decide (i<(l.length:Int))) (.zd (zi i l.length)<|T.bind (text (nth l i d)) fun r =>
    .zd (((List.length ([32]:zf))+(List.length r))≤(4611686018427387904:Nat)) <|
    .zd (((List.length w)+(List.length (cat ([32]:zf) r)))≤(4611686018427387904:Nat)) <|
    .ret (.inl ((cat w (cat ([32]:zf) r)),(zt (i+(1:Int))))))
   (.ret (.inr w)))
  (ht:∀ x∈l,(text x).run=some (f x)) (hb:∀ x∈l,(f x).length≤c) (hl:l.length≤4000000000000) (hc:word.length+l.length*(c+1)≤1000000000000000000) :
  (T.loop r (word,0)).run=some (word++l.flatMap (fun x=>32::f x)):=by
 rw[← Wn]
 refine T.oF l d (fun b i=>(b,i)) (fun k b=>b.length≤word.length+k*(c+1)) (fun s x=>s++(32::f x)) id (fun k b x hk hx hm hI => ?_) (fun b _ => ?_) (b:=word) (by simp)
 ·have h1:=hb x hm
  have h2:=QK (c:=c+1) (show k+1≤l.length from hk)
  rw[Nat.add_mul,Nat.one_mul]at h2
  refine⟨?_,by simp only[List.length_append,List.length_cons]; rw[Nat.add_mul,Nat.one_mul]; omega⟩
  rw[hr,za (qL hk),zc (zo hk),hx,z6 (ht x hm),zD _ (by simp; omega),zD _ (by simp[c6]; omega),z7,vr k _ hk hl]; rfl
 ·rw[hr,z8 (xi _),z7]; rfl
end Go.AM.PL
namespace Go.AM.Lf
open PL
def Ea(n:Int):Prop := -9223372036854775808≤n∧n≤9223372036854775807
theorem Pk(n:Int)(h:Ea n):(strconv_Itoa n).run=some (pC n):=by
 unfold strconv_Itoa
 unfold Ea at h
 rw[zc h,z7]
theorem z92{n:Nat}(h:n<18446744073709551616):(zH n).length≤2:=qc.2 (by show n<4294967296 ^ 2; omega)
theorem C1{n:Nat}(h:n<18446744073709551616):(pr n).length≤37:=iw n 2 (z92 h)
theorem CT(n:Int)(h:Ea n):(pC n).length≤38:=by
 obtain⟨h1,h2⟩:=h
 unfold pC
 split
 ·rw[Ic]
  have:=C1 (n:=n.natAbs) (by omega)
  simp; omega
 ·rw[Ic]
  have:=C1 (n:=n.toNat) (by omega)
  omega
theorem ZM(a:Rat)(h:xd 1000 a):(ep (norm a)).length≤40000:=by
 have Ba:=nO (by omega) h
 generalize norm a=v at *
 have h1:=iw (nv v.2.1) 1000 (Nat.le_trans (zT Ba.1) Ba.2.2.1)
 have h2:=iw (nv v.2.2.1) 1000 (Nat.le_trans (zT Ba.2.1) Ba.2.2.2)
 have h3:=tg v.1
 unfold ep
 split<;>simp<;>omega
end Go.AM.Lf
namespace Go.AM.PL
theorem z4a(p q:Q)(h:q≠0):p / q=qv (decide (p.num<0) != decide (q.num<0)) (p.num.natAbs*q.den) (p.den*q.num.natAbs):=by
 have hn:q.num≠0:=fun z=>h (Rat.num_eq_zero.1 z)
 have h1:(q⁻¹).num.natAbs=q.den:=by
  rw[Rat.num_inv,Int.natAbs_mul,Int.natAbs_sign_of_ne_zero hn,Nat.one_mul,Int.natAbs_natCast]
 have h2:(q⁻¹).den=q.num.natAbs:=by rw[Rat.den_inv,if_neg hn]
 have h3:decide ((q⁻¹).num<0)=decide (q.num<0):=by
  refine decide_eq_decide.2 ?_
  rw[Rat.num_inv]
  have hd:=q.den_pos
  rcases Int.lt_trichotomy q.num 0 with c | c | c
  ·rw[Int.sign_eq_neg_one_of_neg c]; omega
  ·exact absurd c hn
  ·rw[Int.sign_eq_one_of_pos c]; omega
 rw[Rat.div_def,IL,h1,h2,h3,dX]
theorem z63(b:Bool)(n:Nat):qv b n 1=((VB b n:Int):Q):=by
 rw[dX,Rat.mkRat_eq_div]
 have:((1:Nat):Q)=1:=rfl
 rw[this]
 grind
end Go.AM.PL
namespace Go.AM.Lf
open PL
theorem Hf(a b:Rat)(ha:xd 10000000 a)(hb:xd 10000000 b)(h:val b≠0):(iI a b).run=some (xn (val a / val b),true):=by
 unfold iI
 rw[z6 (xO a (xT ha (by omega))),z6 (xO b (xT hb (by omega))),xw,xw]
 have la:=uM (by omega) ha
 have lb:=uM (by omega) hb
 rw[z4a _ _ h]
 generalize val a=p at *
 generalize val b=q at *
 simp only[oa,jG,eH]
 have l1:=wV p; have l2:=wj p; have l3:=wV q; have l4:=wj q
 have m1:=xe p.num.natAbs q.den
 have m2:=xe p.den q.num.natAbs
 have hz:(((zH q.num.natAbs).length:Int)==0)=false:=by rw[db]; exact decide_eq_false fun z=>h (Rat.num_eq_zero.1 (Int.natAbs_eq_zero.1 z))
 rw[z8 hz,z6 (uX _ _ (by omega) (by omega)),z6 (uX _ _ (by omega) (by omega)),z6 (cZ _ _ _ (by omega) (by omega)),z7]
 rfl
theorem gW(n:Int)(h:Ea n):(wa n).run=some (xn (n:Q)):=by
 obtain⟨h1,h2⟩:=h
 unfold wa
 have hN:(bif (decide (n<(0:Int)))then(zw ((0:Int)-(zw n)))else(zw n))=((n.natAbs:Nat):Int):=by
  by_cases c:n<0
  ·rw[decide_eq_true c,cond_true,Qn n,Qn]; omega
  ·rw[decide_eq_false c,cond_false,qx (by omega) (by omega)]; omega
 have hl:(zH n.natAbs).length≤2:=qc.2 (by show n.natAbs<4294967296 ^ 2; omega)
 have ho:=Vg (decide (n<0)) (zH n.natAbs) [1] (zp _) J7 (by omega) (by simp)
 rw[zO,show nv [1]=1 from rfl,Xb,z63]at ho
 have hs:VB (decide (n<0)) n.natAbs=n:=by
  unfold VB
  by_cases c:n<0
  ·rw[decide_eq_true c,if_pos rfl]; omega
  ·rw[decide_eq_false c,if_neg (by simp)]; omega
 rw[hs]at ho
 rw[hN,z6 (lq n.natAbs (by omega)),z6 ho,z7]
theorem Dc(a b:List Int)(ha:zu a)(hb:zu b)(la:a.length≤1000000000)(lb:b.length≤1000000000):(th a b).run=some (if nv a<nv b then([],false)else(zH (nv a-nv b),true)):=by
 have qa:=zT ha
 have qb:=zT hb
 unfold th
 rw[z6 (lA a b ha hb la lb)]
 by_cases hlt0:nv a<nv b
 ·rw[if_pos hlt0]; simp[iC,hlt0]
 rw[if_neg hlt0,z8 (by unfold iC; rw[if_neg hlt0]; split<;>simp),z6 (xY a ha (by omega)),z6 (xY b hb (by omega))]
 generalize nv a=A at *
 generalize nv b=B at *
 obtain⟨x,U6⟩:∃ x,zH A=x:=⟨_,rfl⟩
 obtain⟨y,TY⟩:∃ y,zH B=y:=⟨_,rfl⟩
 have lx:zu x:=U6▸zp _
 have ly:zu y:=TY▸zp _
 have vx:nv x=A:=by rw[← U6,zO]
 have vy:nv y=B:=by rw[← TY,zO]
 have le2:x.length≤1000000000:=by rw[← U6]; omega
 rw[U6,TY]
 simp only[Int.toNat_natCast,List.length_replicate]
 have loop:∃ r:List Int,(Jz y x (x.length:Int) (0,0,List.replicate x.length 0)).run=some r∧zu r∧r.length=x.length∧nv r+nv y=nv x:=by
  refine T.xg (fun s:Int×Int×List Int=>∃ (c i:Nat),s.1=(c:Int)∧s.2.1=(i:Int)∧c≤1∧i≤x.length∧zu s.2.2∧s.2.2.length=x.length∧nv (s.2.2.take i)+nv (y.take i)=nv (x.take i)+c*4294967296 ^ i)
   (fun s=>x.length-s.2.1.toNat) _ ?_ ⟨0,0,rfl,rfl,by omega,by omega,xr _,by simp,by simp⟩
  rintro⟨_,_,xs⟩ ⟨c,i,rfl,rfl,hc,hi,hl,hn,hv⟩
  simp only at hl hn hv ⊢
  by_cases qp:i<x.length
  ·left
   have hx:=wi lx i
   have hy:=wi ly i
   have hw:(bif decide ((i:Int)<(y.length:Int))then nth y (i:Int) 0 else 0)=(lm y i:Int):=by
    by_cases q:i<y.length
    ·rw[qL q,cond_true,wB ly]
    ·rw[decide_eq_false (by omega),cond_false,BR (a:=y) (by omega)]; rfl
   refine⟨(((if lm x i<lm y i+c then 1 else 0:Nat):Int),((i+1:Nat):Int),xs.set i (((lm x i+4294967296*(if lm x i<lm y i+c then 1 else 0))-(lm y i+c):Nat):Int)),?_,⟨_,i+1,rfl,rfl,by split<;>omega,by omega,cv hl _ (by omega) (by split<;>omega),by simpa using hn,?_⟩,by simp; omega⟩
   ·unfold oJ
    dsimp only
    rw[za (qL qp),zc (zo qp),zc (fun h=>zo (by have:=of_decide_eq_true h; omega)),xE,wB lx,hw,z6 (Wp hx hy hc)]
    dsimp only
    rw[zc (by rw[hn]; exact zo qp),Int.toNat_natCast,Nat.zero_add,i1 i (by omega),jD _ rfl (by omega)]
    simp only[List.length_set]
    rw[ze _ rfl rfl rfl,zM,z7]
   ·simp only
    rw[u7 _ (by omega),q9,q9,Nat.pow_succ,Int.toNat_natCast]
    exact WX hv hc hx hy
  ·right
   have Zw:i=x.length:=by omega
   subst Zw
   refine⟨xs,?_,hl,hn,?_⟩
   ·unfold oJ
    simp
   ·rw[List.take_length,← hn,List.take_length,hn]at hv
    have h1:=jX y (min x.length y.length) (by omega)
    have GX:=ya lx
    have H7:nv (y.take x.length)=nv y:=by
     by_cases q:y.length≤x.length
     ·exact qN q
     ·rw[show min x.length y.length=x.length by omega]at h1
      rcases Nat.eq_zero_or_pos (nv (y.drop x.length))with z | z
      ·rw[z]at h1; omega
      ·have:=Nat.mul_le_mul_left (4294967296 ^ x.length) z
       omega
    have Vp:=ya hl
    rw[hn]at Vp
    rw[H7]at hv
    have:c=0:=by
     rcases Nat.eq_zero_or_pos c with h | h
     ·exact h
     ·have:c=1:=by omega
      subst this; omega
    subst this; omega
 obtain⟨xs,hr,hl,hn,hv⟩:=loop
 rw[T.run_mk _ (by omega) (by omega) (by omega) (by omega),ze _ rfl rfl rfl,zM,z6 hr,zM]
 simp only[List.drop_zero,Nat.zero_add,List.take_length]
 rw[z6 (xY xs hl (by omega)),z7,show nv xs=A-B by omega]
theorem oT(neg:Bool)(n d:Nat)(ln:(zH n).length≤100000000)(ld:(zH d).length≤100000000):(oC neg (zH n) (zH d)).run=some (xn (qv neg n d)):=by
 have:=UJ neg (zH n) (zH d) (zp _) (zp _) ln ld
 rwa [zO,zO,Xb]at this
theorem dn(m n:Nat)(lm:(zH m).length≤1000000000)(ln:(zH n).length≤1000000000):(bn (zH m) (zH n)).run=some (zH (m*n)):=by
 have:=rq (zH m) (zH n) (zp _) (zp _) lm ln
 rwa [zO,zO]at this
theorem CB(m n:Nat)(lm:(zH m).length≤1000000000)(ln:(zH n).length≤1000000000):(Qk (zH m) (zH n)).run=some (zH (m+n)):=by
 have:=Ch (zH m) (zH n) (zp _) (zp _) lm ln
 rwa [zO,zO]at this
theorem Wy(m n:Nat)(lm:(zH m).length≤1000000000)(ln:(zH n).length≤1000000000):(th (zH m) (zH n)).run=some (if m<n then([],false)else(zH (m-n),true)):=by
 have:=Dc (zH m) (zH n) (zp _) (zp _) lm ln
 rwa [zO,zO]at this
theorem D3(a b:Rat)(ha:xd 10000000 a)(hb:xd 10000000 b):(lQ a b).run=some (xn (val a+val b)):=by
 unfold lQ
 rw[z6 (j8 a (xT ha (by omega))),z6 (j8 b (xT hb (by omega))),xw,xw]
 have la:=uM (by omega) ha
 have lb:=uM (by omega) hb
 rw[TU]
 generalize val a=p at *
 generalize val b=q at *
 simp only[oa,jG,eH]
 have l1:=wV p; have l2:=wj p; have l3:=wV q; have l4:=wj q
 have m1:=xe p.num.natAbs q.den
 have m2:=xe q.num.natAbs p.den
 have m3:=xe p.den q.den
 rw[z6 (dn _ _ (by omega) (by omega)),z6 (dn _ _ (by omega) (by omega)),z6 (dn _ _ (by omega) (by omega))]
 have m4:=sA (p.num.natAbs*q.den) (q.num.natAbs*p.den) 20000000 (by omega) (by omega)
 generalize p.num.natAbs*q.den=x at *
 generalize q.num.natAbs*p.den=y at *
 generalize p.den*q.den=z at *
 by_cases c:decide (p.num<0)=decide (q.num<0)
 ·rw[za (by simp[c]),z6 (CB _ _ (by omega) (by omega)),z6 (oT _ _ _ (by omega) (by omega)),z7,dX,Mu,c]
 ·rw[z8 (by simpa using c),z6 (Wy _ _ (by omega) (by omega))]
  by_cases g:y≤x
  ·have:=hJ (Nat.sub_le x y)
   rw[if_neg (by omega:¬ x<y)]
   dsimp only
   rw[zA,z6 (oT _ _ _ (by omega) (by omega)),z7,dX,Uc _ _ _ _ c g]
  ·have:=hJ (Nat.sub_le y x)
   rw[if_pos (by omega:x<y)]
   dsimp only
   rw[zr,z6 (Wy _ _ (by omega) (by omega)),if_neg (by omega:¬ y<x)]
   dsimp only
   rw[z6 (oT _ _ _ (by omega) (by omega)),z7,dX,Uc _ _ _ _ (fun h=>c h.symm) (by omega:x≤y),Int.add_comm]
theorem dr(n:Int)(h:Ea n):(uZ n).run=some (xn (n:Q)):=by
 obtain⟨h1,h2⟩:=h
 unfold uZ
 have hN:(bif (decide (n<(0:Int)))then(zw ((0:Int)-(zw n)))else(zw n))=((n.natAbs:Nat):Int):=by
  by_cases c:n<0
  ·rw[decide_eq_true c,cond_true,Qn n,Qn]; omega
  ·rw[decide_eq_false c,cond_false,qx (by omega) (by omega)]; omega
 have pJ:(jW 1).run=some (zH 1):=jR 1 (by omega)
 rw[hN,z6 (jR n.natAbs (by omega)),z6 pJ,z7]
 have e:xn (n:Q)=(decide (n<0),zH n.natAbs,zH 1,()):=by
  unfold xn
  rw[Rat.num_intCast,Rat.den_intCast]
 rw[e]
theorem EM(s:zf):zF s s=true:=by rw[xH]; simp
theorem Cg{l:List Int}(h:wf (.sl u32) l):zu l:=fun x hx=>by
 obtain⟨p,q⟩:=h x hx
 have p':(0:Int)≤x:=p
 have q':x≤4294967295:=q
 exact⟨p',by omega⟩
theorem EJ{a:Rat}(h:wf zI a):zu a.2.1∧zu a.2.2.1:=⟨Cg h.2.1,Cg h.2.2.1⟩
end Go.AM.Lf
namespace Go.AM.PL
def isD(b:UInt8):Bool:=decide (48≤b.toNat∧b.toNat≤57)
def Q5(s:zf):Bool:=s.all isD
def dZ(s:zf):Nat:=s.foldl (fun n b=>n*10+(b.toNat-48)) 0
theorem NG(s:zf)(n:Nat):s.foldl (fun n b=>n*10+(b.toNat-48)) n=n*10 ^ s.length+dZ s:=by
 unfold dZ
 induction s generalizing n with
 | nil=>simp
 | cons b s ih =>
  rw[List.foldl_cons,List.foldl_cons,ih,ih (0*10+(b.toNat-48)),List.length_cons,Nat.pow_succ]
  grind
theorem Jg(s t:zf):dZ (s++t)=dZ s*10 ^ t.length+dZ t:=by
 have:=NG t (dZ s)
 unfold dZ at this ⊢
 rw[List.foldl_append,this]
theorem NO(s:zf)(b:UInt8):dZ (s++[b])=dZ s*10+(b.toNat-48):=by
 unfold dZ; rw[List.foldl_append]; rfl
theorem z2W{b:UInt8}:isD b=true↔48≤b.toNat∧b.toNat≤57:=by unfold isD; simp
theorem UI(s t:zf):Q5 (s++t)=(Q5 s&&Q5 t):=by unfold Q5; rw[List.all_append]
theorem N6(b:UInt8)(t:zf):Q5 (b::t)=(isD b&&Q5 t):=rfl
theorem nZ{s:zf}{k:Nat}(h:k<s.length):wA s (k:Int)=((s[k]).toNat:Int):=by
 unfold wA; simp[h]
end Go.AM.PL

namespace Go.AM.PL
def zeO(t:zf):Option (Nat×Nat) :=
 if t.takeWhile isD=[]then none else match t.dropWhile isD with
 | []=>some (dZ (t.takeWhile isD),1)
 | c::q=>if q=[]∨Q5 q=false then none else if c=46 then some (dZ (t.takeWhile isD)*10 ^ q.length+dZ q,10 ^ q.length)
  else if c=47 then(if dZ q=0 then none else some (dZ (t.takeWhile isD),dZ q))else none
end Go.AM.PL
namespace Go.AM.Lf
open PL
def eC:Rat:=(false,[],[],())
def z1Z(s:zf):Option (Nat×Nat):=zeO (z0G s [45])
theorem J6(a b:List Int)(la:a.length≤1000000000)(e:a=b):(uW a b).run=some true:=by
 subst e
 have key:(cM a a 0).run=some (.inl ()):=by
  have:=T.jt (r:=wP a a) a (zb (.int .u32)) (fun(_:Unit) i=>i) (fun _ _=>True) (fun _ _=>(.inl ():Unit⊕Bool)) (fun k b x xs hk hx hm hd hI => ?_) (fun b _ => ?_) (b:=()) trivial
  ·exact this
  ·left
   refine⟨(),?_,trivial,rfl⟩
   unfold wP
   dsimp only
   rw[za (qL hk),zc (zo hk),zc (zo hk),z8 (by simp),z7,vr k _ hk (by omega)]
  ·unfold wP
   dsimp only
   rw[z8 (xi _),z7]
 unfold uW
 rw[z8 (by simp),z6 key]; rfl
theorem RU(a b:Rat)(ha:xd 100000 a)(hb:xd 100000 b)(h:val a=val b):(fc a b).run=some true:=by
 unfold fc
 have l:=uM (by omega) ha
 have h1:=wV (val a); have h2:=wj (val a)
 rw[z6 (xO a (xT ha (by omega))),z6 (xO b (xT hb (by omega))),xw,xw,← h,za (by simp),jG,eH,z6 (J6 _ _ (by omega) rfl),zA,z6 (J6 _ _ (by omega) rfl),z7]
theorem T4:xd 100000 eC:=⟨kW,kW,by simp[eC],by simp[eC]⟩
end Go.AM.Lf
namespace Go.AM.PL
theorem z2P(n:Nat):isD (NZ n)=true∧(NZ n).toNat-48=n % 10:=by
 have h:(NZ n).toNat=48+n % 10:=by unfold NZ; rw[UInt8.toNat_ofNat']; omega
 exact⟨z2W.2 (by omega),by omega⟩
theorem OP(n:Nat):Q5 (E7 n)=true∧dZ (E7 n)=n:=by
 induction n using Nat.strongRecOn with
 | _ n ih =>
  by_cases h:n=0
  ·subst h; rw[rH]; exact⟨rfl,rfl⟩
  ·obtain⟨h1,h2⟩:=ih (n / 10) (by omega)
   obtain⟨h3,h4⟩:=z2P n
   rw[tf h]
   refine⟨by rw[UI,h1,N6,h3]; rfl,?_⟩
   rw[NO,h2,h4]; omega
theorem z2Z(n:Nat):Q5 (pr n)=true∧dZ (pr n)=n:=by
 unfold pr
 split
 ·rename_i h; subst h; exact⟨by decide,by decide⟩
 ·exact OP n
theorem PK(k:Nat):Q5 (jL [48] k)=true∧dZ (jL [48] k)=0:=by
 induction k with
 | zero=>exact⟨rfl,rfl⟩
 | succ k ih =>
  show Q5 ([48]++jL [48] k)=true∧dZ ([48]++jL [48] k)=0
  rw[UI,Jg,ih.1,ih.2]
  exact⟨by decide,by show 0*_+0=0; omega⟩
end Go.AM.PL
namespace Go.AM.Lf
open PL
theorem O8(s:zf)(k:Nat)(hk:k≠0)(hs:Q5 s=true):∃ w p,Ok s k=w++46::p∧Q5 w=true∧w≠[]∧Q5 p=true∧p.length=k∧dZ w*10 ^ k+dZ p=dZ s∧w.length+k=max s.length (k+1):=by
 unfold Ok
 rw[if_neg hk]
 have hr:=PK (k+1-s.length)
 have hl:=Qf (k+1-s.length)
 have hd:Q5 (jL [48] (k+1-s.length)++s)=true:=by rw[UI,hr.1,hs]; rfl
 have hv:dZ (jL [48] (k+1-s.length)++s)=dZ s:=by rw[Jg,hr.2]; omega
 have hlen:(jL [48] (k+1-s.length)++s).length=(k+1-s.length)+s.length:=by rw[List.length_append,hl]
 generalize jL [48] (k+1-s.length)++s=t at *
 refine⟨t.take (t.length-k),t.drop (t.length-k),by simp,?_,?_,?_,by simp; omega,?_,by simp; omega⟩
 ·exact List.all_eq_true.2 fun x hx=>List.all_eq_true.1 hd x (List.mem_of_mem_take hx)
 ·intro z
  have:=congrArg List.length z
  simp at this; omega
 ·exact List.all_eq_true.2 fun x hx=>List.all_eq_true.1 hd x (List.mem_of_mem_drop hx)
 ·have:=Jg (t.take (t.length-k)) (t.drop (t.length-k))
  rw[List.take_append_drop,hv,List.length_drop,show t.length-(t.length-k)=k by omega]at this
  exact this.symm
theorem YG(b:Bool)(N D:Nat)(hD:D≠0):∀ (f k:Nat) (s:zf),xP b N D k f=(s,true)→∃ j,k≤j∧j<k+f∧N*10 ^ j % D=0∧s=Lw b++Ok (pr (N*10 ^ j / D)) j
 | 0,k,s,h=>by unfold xP at h; cases h
 | f+1,k,s,h=>by
  unfold xP at h
  split at h
  ·rename_i c; cases h; exact⟨k,Nat.le_refl _,by omega,c,rfl⟩
  ·obtain⟨j,h1,h2,h3,h4⟩:=YG b N D hD f (k+1) s h
   exact⟨j,by omega,by omega,h3,h4⟩
theorem z5S{x:Int}(h:wf i64 x):Ea x:=by
 have p:(-9223372036854775808:Int)≤x:=h.1
 have q:x≤9223372036854775807:=h.2
 exact⟨p,q⟩
def vE{α:Type}(p:α→Bool)(i:Int):List α→Int
 | [] => -1
 | x::r=>if p x=true then i else vE p (i+1) r
theorem TF{α:Type}(p:α→Bool)(l:List α)(i:Int)(h:0≤i):vE p i l = -1∨(i≤vE p i l∧vE p i l<i+l.length):=by
 induction l generalizing i with
 | nil=>exact .inl rfl
 | cons x r ih =>
  simp only[vE,List.length_cons]
  split
  ·right; omega
  ·rcases ih (i+1) (by omega)with h | h
   ·exact .inl h
   ·right; omega
end Go.AM.Lf
namespace Go.AM.T
theorem zk{α β:Type}(a:β)(t:T α):(zd (a=a) t).run=t.run:=zc rfl t
end Go.AM.T
namespace Go.AM.Lf
open PL
abbrev zeV:Ty:=.cons .str (.cons zI .nil)
abbrev ItT:=den zeV
theorem Ws{α:Type}{l:List α}{P:α→Prop}(h:∀ k (hk:k<l.length),P l[k]):∀ x∈l,P x:=by
 intro x hx
 obtain⟨k,hk,rfl⟩:=List.getElem_of_mem hx
 exact h k hk
theorem qP{α:Type}{l:List α}{k:Nat}(h:k<l.length)(d:α):nth l (k:Int) d=l[k]:=by simp[nth,h]
theorem WL(s:zf):(bytesOf s).length=s.length:=by unfold bytesOf; simp
theorem BM(s t:zf):bytesOf (s++t)=bytesOf s++bytesOf t:=by unfold bytesOf; simp
theorem Dw(s:zf):qO (bytesOf s)=s:=by
 unfold qO bytesOf
 rw[List.map_map]
 conv=>rhs; rw[← List.map_id s]
 refine List.map_congr_left fun b _ => ?_
 simp[byteOf]
theorem Yc(s:zf):∀ n∈bytesOf s,(0:Int)≤n∧n<256:=by
 intro n hn
 unfold bytesOf at hn
 obtain⟨b,_,rfl⟩:=List.mem_map.1 hn
 have:=b.toNat_lt
 omega
theorem vT(s b:zf)(h:b.length+s.length≤140737488355328):(qk s () (bytesOf b)).run=some ((s.length:Int),(),bytesOf (b++s)):=by
 unfold qk lY
 simp only[T.bind]
 rw[ze _ rfl rfl rfl,zM,qT _ rfl rfl rfl (by simp only[WL]; omega),ze _ (by simp) rfl (by simp),zc (by simp),z7,BM]
theorem Yd(b:zf)(h:b.length≤140737488355328):(ox () (bytesOf b)).run=some (b,()):=by
 unfold ox z0R
 rw[zc ⟨Yc b,by rw[WL]; exact h⟩,z7,Dw]
def zaV(x:ItT):zf:=x.1++[32]++ep (norm x.2.1)++[10]
theorem KT(a:List Rat)(hl:a.length≤1000000000000):(uB a).run=some a:=by
 unfold uB
 rw[zc]
 ·cases a with
  | nil=>simp
  | cons x a=>simp only[List.length_cons]at hl; simp(disch:=omega)
 ·rintro rfl r hr
  first
  | simpa[T.leads]using hr
  | (obtain⟨_,_,hr⟩:=hr; simpa[T.leads]using hr)
theorem Cc(f:Form)(hl:f.2.2.2.1.length≤1000000000):(iS f).run=some (f.2.2.2.1.map (·.1)):=by
 have key:=T.nd (r:=kC f.2.2.2.1 (f.2.2.2.1.length:Int)) f.2.2.2.1 (zb q8) (fun(b:List zf) i=>(i,b)) (fun k b=>b.length=k) (fun b x=>b++[x.1]) id (fun k b x hk hx hm hI => ?_) (fun b hI => ?_) (b:=[]) rfl
 ·obtain⟨k1,k2⟩:=key
  rw[ZZ,List.nil_append]at k1 k2
  have k1:(rY f.2.2.2.1 (f.2.2.2.1.length:Int) ((0:Int),([]:List zf))).run=some (f.2.2.2.1.map (·.1)):=k1
  unfold iS
  rw[ze _ rfl rfl rfl,T.zk,z6 k1,T.zk,z7,Nat.zero_add,List.take_length,List.drop_zero]
 ·refine⟨?_,by simp; omega⟩
  unfold kC
  dsimp only
  rw[za (qL hk),zc (zo hk),hx,qT _ rfl rfl rfl (by omega),ze _ (by simp) rfl (by simp),zc (by simp),z7,vr k _ hk (by omega)]
 ·unfold kC
  dsimp only
  rw[z8 (xi _),ze _ rfl rfl rfl,T.zk,z7]; rfl
theorem z0W(f:Form)(ps:List Rat)(hl:f.2.2.2.1.length≤1000000000)(hp:f.2.1.length≤1000000000)(CA:ps.length≤1000000000) :
  (sE f ps).run=some (f.2.2.2.1.map (·.1),f.2.1.map (·.1),ps,()):=by
 have key:=T.nd (r:=cS f.2.1 (f.2.1.length:Int)) f.2.1 (zb zX) (fun(b:List zf) i=>(i,(([]:List Rat),()),(f.2.2.2.1.map (·.1),ps,()),[],[],b)) (fun k b=>b.length=k) (fun b x=>b++[x.1])
  (fun b=>((([]:List Rat),()),(f.2.2.2.1.map (·.1),ps,()),[],[],b)) (fun k b x hk hx hm hI => ?_) (fun b hI => ?_) (b:=[]) rfl
 ·obtain⟨k1,k2⟩:=key
  rw[ZZ,List.nil_append]at k1 k2
  have k1:(Vu f.2.1 (f.2.1.length:Int) ((0:Int),((([]:List Rat),()),((f.2.2.2.1.map (·.1),(ps,())),(([]:List zf),(([]:List zf),([]:List zf))))))).run=some ((([]:List Rat),()),(f.2.2.2.1.map (·.1),ps,()),[],[],f.2.1.map (·.1)):=k1
  unfold sE
  rw[z6 (Cc f hl),z6 (KT ps (by omega)),ze _ rfl rfl rfl,ze _ rfl rfl rfl,ze _ rfl rfl rfl,T.zk,T.zk,T.zk,z6 k1,T.zk,z7,Nat.zero_add,List.take_length,List.drop_zero]
 ·refine⟨?_,by simp; omega⟩
  unfold cS
  dsimp only
  rw[za (qL hk),zc (zo hk),hx,qT _ rfl rfl rfl (by omega),ze _ rfl rfl rfl,ze _ rfl rfl rfl,ze _ (by simp) rfl (by simp),T.zk,T.zk,zc (by simp),z7,vr k _ hk (by omega)]
 ·unfold cS
  dsimp only
  rw[z8 (xi _),ze _ rfl rfl rfl,ze _ rfl rfl rfl,ze _ rfl rfl rfl,T.zk,T.zk,T.zk,z7]
def Rv(b:UInt8):Bool:=decide (97≤(b.toNat:Int))&&decide ((b.toNat:Int)≤122)
def ZQ(b:UInt8):Bool:=Rv b||((decide (48≤(b.toNat:Int))&&decide ((b.toNat:Int)≤57))||((b.toNat:Int)==95))
def w6(s:zf):Bool:=match s with | []=>false | b::_=>decide (s.length≤24)&&(Rv b&&s.all ZQ)
theorem V6(b:UInt8):(eO (b.toNat:Int)).run=some (ZQ b):=by
 have h1:(uk (b.toNat:Int)).run=some (Rv b):=rfl
 have h2:(ov (b.toNat:Int)).run=some (decide (48≤(b.toNat:Int))&&decide ((b.toNat:Int)≤57)):=rfl
 unfold eO ZQ
 rw[z6 h1]
 cases Rv b with
 | true=>rw[zA,z7]; rfl
 | false =>
  rw[zr,z6 h2]
  cases(decide (48≤(b.toNat:Int))&&decide ((b.toNat:Int)≤57))with
  | true=>rw[zA,z7]; rfl
  | false=>rw[zr,z7]; rfl
theorem dw(s:zf):(uR s).run=some (w6 s):=by
 unfold uR
 cases s with
 | nil=>rfl
 | cons b r =>
  have e0:zF (b::r) []=false:=by rw[xH]; simp
  rw[e0]
  by_cases c:24<(b::r).length
  ·have:(T.ite false (.ret true) (.ite (decide ((24:Int)<((b::r).length:Int))) (.ret true) (.zd (zi (0:Int) (List.length (b::r)))<|T.bind (uk (wA (b::r) (0:Int))) fun r=>.ret (!r))):T Bool).run=some true:=by
    rw[zr,za (decide_eq_true (by omega)),z7]
   rw[z6 this,zA,z7]
   unfold w6
   rw[decide_eq_false (by omega)]; rfl
  ·have hb:wA (b::r) (0:Int)=(b.toNat:Int):=nZ (s:=b::r) (k:=0) (by simp)
   have h1:(uk (b.toNat:Int)).run=some (Rv b):=rfl
   have:(T.ite false (.ret true) (.ite (decide ((24:Int)<((b::r).length:Int))) (.ret true) (.zd (zi (0:Int) (List.length (b::r)))<|T.bind (uk (wA (b::r) (0:Int))) fun r=>.ret (!r))):T Bool).run=some (!Rv b):=by
    rw[zr,z8 (decide_eq_false (by omega)),zc (by refine⟨by omega,?_⟩; simp only[List.length_cons]; omega),hb,z6 h1,z7]
   rw[z6 this]
   unfold w6
   dsimp only
   rw[decide_eq_true (by omega),Bool.true_and]
   cases Rv b with
   | false=>rw[za (by rfl),z7]; rfl
   | true =>
    rw[z8 (by rfl),Bool.true_and]
    have key:(Xv (b::r) ((b::r).length:Int) 0).run=some (if(b::r).all ZQ=true then .inl ()else .inr false):=by
     refine T.jt (r:=kM (b::r) ((b::r).length:Int)) (b::r) (0:UInt8) (fun(_:Unit) i=>i) (fun _ _=>True) (fun l _=>(if l.all ZQ=true then .inl ()else .inr false:Unit⊕Bool)) (fun k _ x xs hk hx hm hd hI => ?_) (fun _ _ => ?_) (b:=()) trivial
     ·have hxk:(b::r)[k]=x:=by rw[← hx]; unfold nth; rw[Int.toNat_natCast,List.getD_eq_getElem?_getD,List.getElem?_eq_getElem hk]; rfl
      have DH:wA (b::r) (k:Int)=(x.toNat:Int):=by rw[nZ hk,hxk]
      cases Xd:ZQ x with
      | true =>
       left
       refine⟨(),?_,trivial,?_⟩
       ·unfold kM
        rw[za (qL hk),zc (zo hk),DH,z6 (V6 x),Xd,z8 (by rfl),z7,vr k _ hk (by omega)]
       ·rw[List.all_cons,Xd,Bool.true_and]
      | false =>
       right
       unfold kM
       rw[za (qL hk),zc (zo hk),DH,z6 (V6 x),Xd,za (by rfl),z7,List.all_cons,Xd]
       rfl
     ·unfold kM
      rw[z8 (xi _),z7]; rfl
    rw[z6 key]
    cases h:(b::r).all ZQ with
    | true=>rfl
    | false=>rfl
theorem Zf(l:List zf)(v:zf)(hl:l.length≤1000000000):(qw l v).run=some (PL.vE (fun s=>zF v s) 0 l):=by
 have key:(vS l v (l.length:Int) 0).run=some (if PL.vE (fun s=>zF v s) 0 l = -1 then .inl ()else .inr (PL.vE (fun s=>zF v s) 0 l)):=by
  refine PL.yS (r:=qs l v (l.length:Int)) l (zb .str) _ (fun i h0 h hp => ?_) (fun i h0 h hp => ?_) (fun i h => ?_)
  ·unfold qs
   rw[za (decide_eq_true h),zc ⟨h0,h⟩,za hp,z7]
  ·unfold qs
   rw[za (decide_eq_true h),zc ⟨h0,h⟩,z8 hp,z7,zN (by omega) (by omega)]
  ·unfold qs
   rw[z8 (decide_eq_false h),z7]
 unfold qw
 rw[z6 key]
 split<;>rename_i h
 ·rw[h]; rfl
 ·rfl
theorem mz{α:Type}(f:α→Nat)(l:List α):∀ x∈l,f x≤cq f l:=by
 induction l with
 | nil=>intro x hx; cases hx
 | cons y l ih =>
  intro x hx
  show _≤f y+cq f l
  rcases List.mem_cons.1 hx with rfl | hx
  ·omega
  ·have:=ih x hx; omega
theorem fK{α:Type}(f:α→Nat)(l:List α)(h:∀ x,1≤f x):l.length≤cq f l:=by
 induction l with
 | nil=>simp
 | cons y l ih =>
  show _≤f y+cq f l
  have:=h y
  simp; omega
mutual
/-- What an expression weighs. -/
def szE:Expr→Nat
 | .mk _ n s l=>3+s.length+8*n.2.1.length+8*n.2.2.1.length+szEs l
def szEs:List Expr→Nat
 | []=>0
 | e::r=>szE e+szEs r
end
mutual
theorem J2:∀ (e:Expr) (left:Int),0≤wtE e left→wtE e left=left-szE e
 | .mk _ n s l,left,h=>by
  have:=ID l (left-3-s.length-8*n.2.1.length-8*n.2.2.1.length)
  simp only[wtE,szE]at h ⊢
  rw[this h]; omega
theorem ID:∀ (l:List Expr) (left:Int),0≤wtEs l left→wtEs l left=left-szEs l
 | [],left,h=>by simp[wtEs,szEs]
 | e::r,left,h=>by
  have h1:=J2 e left
  have h2:=ID r (wtE e left)
  have h3:=(GJ r (wtE e left)).1
  by_cases c:0≤left
  ·simp only[wtEs,szEs,if_pos c]at h ⊢
   rw[h2 h,h1 (by omega)]; omega
  ·simp only[wtEs,if_neg c]at h; omega
end
structure FB(f:Form):Prop where
 l1:f.1.length≤1048576
 l2:f.2.1.length≤1048576
 l3:f.2.2.1.length≤1048576
 l4:f.2.2.2.1.length≤1048576
 l5:f.2.2.2.2.1.length≤1048576
 l6:f.2.2.2.2.2.1.length≤1048576
 s:∀ x∈f.1,x.1.length≤1048576
 p:∀ x∈f.2.1,x.1.length≤1048576∧x.2.1.2.1.length≤1048576∧x.2.1.2.2.1.length≤1048576∧zu x.2.1.2.1∧zu x.2.1.2.2.1
 g:∀ x∈f.2.2.1,x.1.length≤1048576∧x.2.1.length≤1048576
 d:∀ x∈f.2.2.2.1,x.1.length≤1048576
 r:∀ x∈f.2.2.2.2.1,x.1.length≤1048576∧x.2.2.1.length≤1048576∧bkE x.2.2.2.1≤1048576∧bkE x.2.2.2.2.1≤1048576
 c:∀ x∈f.2.2.2.2.2.1,x.1.length≤1048576∧bkE x.2.2.2.1≤1048576∧bkE x.2.2.2.2.1≤1048576
theorem z4f{f:Form}(hw:wf zG f)(hb:bk zG f≤1048576):FB f:=by
 have e1:bk zG f=(cq (bk zV) f.1+1)+((cq (bk zX) f.2.1+1)+((cq (bk qu) f.2.2.1+1)+((cq (bk q8) f.2.2.2.1+1)+((cq (bk zn) f.2.2.2.2.1+1)+((cq (bk zm) f.2.2.2.2.2.1+1)+1))))):=rfl
 have b1:∀ x,bk zV x=(x.1.length+1)+(1+1):=fun _=>rfl
 have b2:∀ x,bk zX x=(x.1.length+1)+((1+((cq (bk u32) x.2.1.2.1+1)+((cq (bk u32) x.2.1.2.2.1+1)+1)))+1):=fun _=>rfl
 have b3:∀ x,bk qu x=(x.1.length+1)+((x.2.1.length+1)+1):=fun _=>rfl
 have b4:∀ x,bk q8 x=(x.1.length+1)+(1+(1+(1+1))):=fun _=>rfl
 have b5:∀ x,bk zn x=(x.1.length+1)+(1+((x.2.2.1.length+1)+(bkE x.2.2.2.1+(bkE x.2.2.2.2.1+1)))):=fun _=>rfl
 have b6:∀ x,bk zm x=(x.1.length+1)+(1+(1+(bkE x.2.2.2.1+(bkE x.2.2.2.2.1+1)))):=fun _=>rfl
 have u1:∀ l:List Int,cq (bk u32) l=l.length:=fun l=>BC l
 have k1:=fK (bk zV) f.1 (fun x=>by rw[b1]; omega)
 have k2:=fK (bk zX) f.2.1 (fun x=>by rw[b2]; omega)
 have k3:=fK (bk qu) f.2.2.1 (fun x=>by rw[b3]; omega)
 have k4:=fK (bk q8) f.2.2.2.1 (fun x=>by rw[b4]; omega)
 have k5:=fK (bk zn) f.2.2.2.2.1 (fun x=>by rw[b5]; omega)
 have k6:=fK (bk zm) f.2.2.2.2.2.1 (fun x=>by rw[b6]; omega)
 rw[e1]at hb
 refine⟨by omega,by omega,by omega,by omega,by omega,by omega,fun x hx => ?_,fun x hx => ?_,fun x hx => ?_,fun x hx => ?_,fun x hx => ?_,fun x hx => ?_⟩
 ·have:=mz (bk zV) f.1 x hx; rw[b1]at this; omega
 ·have:=mz (bk zX) f.2.1 x hx
  rw[b2,u1,u1]at this
  have hwx:wf zX x:=hw.2.1 x hx
  obtain⟨r1,r2⟩:=EJ hwx.2.1
  exact⟨by omega,by omega,by omega,r1,r2⟩
 ·have:=mz (bk qu) f.2.2.1 x hx; rw[b3]at this; exact⟨by omega,by omega⟩
 ·have:=mz (bk q8) f.2.2.2.1 x hx; rw[b4]at this; omega
 ·have:=mz (bk zn) f.2.2.2.2.1 x hx; rw[b5]at this; exact⟨by omega,by omega,by omega,by omega⟩
 ·have:=mz (bk zm) f.2.2.2.2.2.1 x hx; rw[b6]at this; exact⟨by omega,by omega,by omega⟩
theorem cr{r:Int×Int→T ((Int×Int)⊕Int)}(len:Nat)(hlen:len≤1048576)(P:Nat→Prop)
  (h1:∀ (n:Int) (k:Nat),k<len→0≤n→n≤600→∃ n',(r (n,(k:Int))).run=some (.inl (n',((k+1:Nat):Int))) ∧ -10000000000≤n'∧n'≤n∧(0≤n'→P k))
  (h2:∀ (n:Int) (k:Nat),¬ (k<len∧0≤n)→(r (n,(k:Int))).run=some (.inr n)) (n:Int) (hn : -10000000000≤n) (KO:n≤600) :
  ∃ n',(T.loop r (n,0)).run=some n' ∧ -10000000000≤n'∧n'≤n∧(0≤n'→∀ k<len,P k):=by
 refine T.xg (fun s:Int×Int=>∃ k:Nat,s.2=(k:Int)∧k≤len ∧ -10000000000≤s.1∧s.1≤n∧(0≤s.1→∀ j<k,P j)) (fun s=>len-s.2.toNat) _ (fun s hs => ?_) ⟨0,rfl,by omega,hn,by omega,fun _ j hj=>by omega⟩
 obtain⟨m,i⟩:=s
 obtain⟨k,rfl,hk,hm,NR,hP⟩:=hs
 by_cases c:k<len∧0≤m
 ·left
  obtain⟨n',g1,g2,g3,g4⟩:=h1 m k c.1 c.2 (by dsimp only at NR; omega)
  refine⟨_,g1,⟨k+1,rfl,c.1,g2,by dsimp only at NR ⊢; omega,fun h0 j hj => ?_⟩,by dsimp only; omega⟩
  rcases Nat.lt_succ_iff_lt_or_eq.1 hj with hj | rfl
  ·exact hP c.2 j hj
  ·exact g4 h0
 ·right
  refine⟨m,h2 m k c,hm,NR,fun h0 j hj=>hP h0 j ?_⟩
  have:k=len:=by
   by_cases q:k<len
   ·exact absurd ⟨q,h0⟩ c
   ·omega
  omega
theorem Gg{k len:Nat}{n:Int}(h:¬ (k<len∧0≤n)):(decide ((k:Int)<(len:Int))&&decide (0≤n))=false:=by
 by_cases q:k<len
 ·have:¬ 0≤n:=fun z=>h ⟨q,z⟩
  rw[decide_eq_false this,Bool.and_false]
 ·rw[decide_eq_false (by omega),Bool.false_and]
theorem YO{k len:Nat}{n:Int}(h:k<len)(h0:0≤n):(decide ((k:Int)<(len:Int))&&decide (0≤n))=true:=by
 rw[decide_eq_true (by omega),decide_eq_true h0]; rfl
def gF(l:List Int):Bool:=zH (nv l)==l
def dP(a:Rat):Bool:=gF a.2.1&&(gF a.2.2.1&&(!(nv a.2.2.1==0)&&(!(a.1&&(nv a.2.1==0))&&(Nat.gcd (nv a.2.1) (nv a.2.2.1)==1))))
theorem jn{l:List Int}(h:zu l):gF l=true↔WQ l:=by
 unfold gF
 constructor
 ·intro e
  have e:zH (nv l)=l:=by simpa using e
  rw[← e]; exact sT _
 ·intro ht
  rw[Q7 h ht]; simp
theorem KK(l:List Int)(h:zu l)(hl:l.length≤1000000000):(iA l).run=some (gF l):=by
 unfold iA
 cases l with
 | nil =>
  rw[zc (fun h=>by simp at h),z7]
  have e:gF []=true:=by unfold gF; rw[show nv []=0 from rfl,qA]; rfl
  rw[e]; rfl
 | cons x r =>
  obtain⟨n,hn⟩:∃ n,(x::r).length=n+1:=⟨r.length,rfl⟩
  have ew:zt (((x::r).length:Int)-1)=(n:Int):=by rw[hn,zN (by omega) (by omega)]; omega
  have FP:n<(x::r).length:=by omega
  have e0:(((x::r).length:Int)==0)=false:=by rw[hn]; simp; omega
  have hg:(x::r).getLast? = some ((x::r)[n]):=by
   rw[List.getLast?_eq_getElem?,hn,Nat.add_sub_cancel,List.getElem?_eq_getElem FP]
  rw[zc (fun _=>by rw[ew]; exact zo FP),z7,ew,qP FP,e0,Bool.false_or]
  congr 1
  cases hq:((x::r)[n] != 0)with
  | true =>
   symm
   rw[jn h]
   intro y hy
   rw[hg]at hy
   cases hy
   simpa using hq
  | false =>
   symm
   rw[Bool.eq_false_iff]
   intro ht
   have:=(jn h).1 ht _ hg
   simp at hq
   exact this hq
theorem nY(a:Rat)(h:xd 100000000 a):(sI a).run=some (dP a):=by
 obtain⟨h1,h2,h3,h4⟩:=h
 unfold sI dP
 have n1:=KK a.2.1 h1 (by omega)
 have n2:=KK a.2.2.1 h2 (by omega)
 have hzD:gF a.2.2.1=true→(((a.2.2.1.length:Int))==0)=(nv a.2.2.1==0):=fun ht=>by
  have e:zH (nv a.2.2.1)=a.2.2.1:=Q7 h2 ((jn h2).1 ht)
  conv=>lhs; rw[← e]
  rw[db]
  cases q:decide (nv a.2.2.1=0)<;>simp_all
 have hzN:gF a.2.1=true→(((a.2.1.length:Int))==0)=(nv a.2.1==0):=fun ht=>by
  have e:zH (nv a.2.1)=a.2.1:=Q7 h1 ((jn h1).1 ht)
  conv=>lhs; rw[← e]
  rw[db]
  cases q:decide (nv a.2.1=0)<;>simp_all
 have hg:=V3 a.2.1 a.2.2.1 h1 h2 (by omega) (by omega)
 have pJ:(jW 1).run=some (zH 1):=jR 1 (by omega)
 have hc:∀ g:Nat,(zH g).length≤100000001→(lC (zH g) (zH 1)).run=some (iC g 1):=fun g hl=>by
  have:=lA (zH g) (zH 1) (zp _) (zp _) (by omega) (by rw[lB]; simp)
  rwa [zO,zO]at this
 have head:∀ b:Bool,((T.bind (iA a.2.1) fun r=>.ite (!r) (.ret true) (T.bind (iA a.2.2.1) fun r1=>.ite (!r1) (.ret true) (.ite ((a.2.2.1.length:Int)==(0:Int)) (.ret true) (.ite a.1 (.ret ((a.2.1.length:Int)==(0:Int))) (.ret false))))):T Bool).run =
   some (!(gF a.2.1&&(gF a.2.2.1&&(!(nv a.2.2.1==0) && !(a.1&&(nv a.2.1==0)))))):=fun _=>by
  rw[z6 n1]
  cases t1:gF a.2.1 with
  | false=>rfl
  | true =>
   rw[z8 (by rfl),z6 n2]
   cases t2:gF a.2.2.1 with
   | false=>rfl
   | true =>
    rw[z8 (by rfl),hzD t2]
    cases nv a.2.2.1==0 with
    | true=>rfl
    | false =>
     rw[zr,hzN t1]
     cases a.1 with
     | true=>rw[zA,z7]; cases nv a.2.1==0<;>rfl
     | false=>rfl
 rw[z6 (head true)]
 cases hb:(gF a.2.1&&(gF a.2.2.1&&(!(nv a.2.2.1==0) && !(a.1&&(nv a.2.1==0)))))with
 | false =>
  rw[za (by rfl),z7]
  congr 1
  generalize (Nat.gcd (nv a.2.1) (nv a.2.2.1)==1)=g
  revert hb
  cases gF a.2.1<;>cases gF a.2.2.1<;>cases(nv a.2.2.1==0)<;>cases a.1<;>cases(nv a.2.1==0)<;>simp
 | true =>
  rw[z8 (by rfl),z6 hg,z6 pJ]
  have hle:(zH (Nat.gcd (nv a.2.1) (nv a.2.2.1))).length≤100000001:=by
   simp only[Bool.and_eq_true,Bool.not_eq_true',beq_eq_false_iff_ne]at hb
   have hd:0<nv a.2.2.1:=Nat.pos_of_ne_zero hb.2.2.1
   have m1:=hJ (Nat.gcd_le_right (nv a.2.1) hd)
   have m2:=zT h2
   omega
  rw[z6 (hc _ hle),z7]
  congr 1
  have hgc:(iC (Nat.gcd (nv a.2.1) (nv a.2.2.1)) 1==0)=(Nat.gcd (nv a.2.1) (nv a.2.2.1)==1):=by
   generalize Nat.gcd (nv a.2.1) (nv a.2.2.1)=g
   unfold iC
   by_cases q1:g<1
   ·rw[if_pos q1]; simp; omega
   ·by_cases q2:1<g
    ·rw[if_neg q1,if_pos q2]; simp; omega
    ·have:g=1:=by omega
     subst this; rfl
  rw[hgc]
  revert hb
  generalize (Nat.gcd (nv a.2.1) (nv a.2.2.1)==1)=g
  cases gF a.2.1<;>cases gF a.2.2.1<;>cases(nv a.2.2.1==0)<;>cases a.1<;>cases(nv a.2.1==0)<;>simp
def vb(a:Rat):Bool:=decide (16<(norm a).2.1.length)||decide (16<(norm a).2.2.1.length)
theorem yq(a:Rat)(h:xd 100000000 a):(uO a).run=some (vb a):=by
 unfold uO vb
 rw[z6 (j8 a h),z7]
 congr 2
 ·exact decide_eq_decide.2 (by omega)
 ·exact decide_eq_decide.2 (by omega)
def bY(a:Rat):Bool:=dP a&&(!a.1&&(!vb a&&(xP (norm a).1 (nv (norm a).2.1) (nv (norm a).2.2.1) 0 61).2))
def ua(a:Rat):Bool := !a.1&&(a.2.1.isEmpty&&(a.2.2.1.isEmpty||dP a))
def WO(k:Int):Int:=if k=1∨k=2 then 0 else if k=7 then 1 else if k=3∨k=4∨k=5∨k=6 then 2 else -1
def cR(e:Expr):Bool:=((e.kids.length:Int)==WO e.kind)&&(if e.kind=1 then bY e.num&&zF e.name []else if e.kind=2 then ua e.num&&w6 e.name else ua e.num&&zF e.name [])
mutual
def wu:Expr→Nat
 | .mk _ _ _ l=>1+vZ l
def vZ:List Expr→Nat
 | []=>0
 | e::r=>wu e+vZ r
end
mutual
def vf(deep:Nat):Expr→Bool
 | .mk k n s l=>decide (deep<32)&&(cR (.mk k n s l)&&kU (deep+1) l)
def kU(deep:Nat):List Expr→Bool
 | []=>true
 | e::r=>vf deep e&&kU deep r
end
theorem QW:∀ (l:List Expr),l.length≤vZ l
 | []=>Nat.le_refl _
 | .mk _ _ _ k::r=>by
  have:=QW r
  unfold vZ wu
  simp only[List.length_cons]; omega
theorem X7{e:Expr}:∀ {l:List Expr},e∈l→wu e≤vZ l
 | [],h=>by cases h
 | x::r,h=>by
  unfold vZ
  rcases List.mem_cons.1 h with rfl | h
  ·omega
  ·have:=X7 h; omega
mutual
/-- How many nodes are looked at. -/
def Y7(deep:Nat):Expr→Nat
 | .mk k n s l=>1+if(decide (deep<32)&&cR (.mk k n s l))=true then mK (deep+1) l else 0
def mK(deep:Nat):List Expr→Nat
 | []=>0
 | e::r=>Y7 deep e+if vf deep e=true then mK deep r else 0
end
mutual
theorem LN:∀ (e:Expr) (deep:Nat),Y7 deep e≤wu e
 | .mk k n s l,deep=>by
  have:=JR l (deep+1)
  unfold Y7 wu
  split<;>omega
theorem JR:∀ (l:List Expr) (deep:Nat),mK deep l≤vZ l
 | [],_=>Nat.le_refl _
 | e::r,deep=>by
  have h1:=LN e deep
  have h2:=JR r deep
  unfold mK vZ
  split<;>omega
end
mutual
theorem GR:∀ (e:Expr),3*wu e≤szE e
 | .mk k n s l=>by
  have:=Lu l
  unfold wu szE
  omega
theorem Lu:∀ (l:List Expr),3*vZ l≤szEs l
 | []=>Nat.le_refl _
 | e::r=>by
  have h1:=GR e
  have h2:=Lu r
  unfold vZ szEs
  omega
end
def WA(a:Rat):Prop:=xd 100 a
mutual
def allOk:Expr→Prop
 | .mk _ n _ l=>WA n∧allOks l
def allOks:List Expr→Prop
 | []=>True
 | e::r=>allOk e∧allOks r
end
theorem ZX{l:List Expr}(h:allOks l):∀ e∈l,allOk e:=by
 induction l with
 | nil=>intro e he; cases he
 | cons x r ih =>
  intro e he
  rcases List.mem_cons.1 he with rfl | he
  ·exact h.1
  ·exact ih h.2 e he
mutual
theorem ri:∀ (e:Expr),wfE e→szE e≤800→allOk e
 | .mk k n s l,hw,hs=>by
  unfold szE at hs
  have hw':wf Xe (Expr.mk k n s l).O0:=(L5 _).2 hw
  obtain⟨_,hn,_,hl,_⟩:=hw'
  obtain⟨r1,r2⟩:=EJ hn
  have r1:zu n.2.1:=r1
  have r2:zu n.2.2.1:=r2
  refine⟨⟨r1,r2,by omega,by omega⟩,Yx l (fun e he=>hl e he) (by omega)⟩
theorem Yx:∀ (l:List Expr),(∀ e∈l,wfE e)→szEs l≤800→allOks l
 | [],_,_=>trivial
 | e::r,hw,hs=>by
  unfold szEs at hs
  exact⟨ri e (hw e List.mem_cons_self) (by omega),Yx r (fun x hx=>hw x (List.mem_cons_of_mem _ hx)) (by omega)⟩
end
theorem Fw(a:Rat)(h:WA a):(dA a).run=some (ua a):=by
 unfold dA ua
 have hr:=nY a (xT h (by omega))
 have e:∀ l:List Int,(((l.length:Int))==0)=l.isEmpty:=fun l=>by cases l<;>simp; omega
 rw[e,e]
 cases a.1 with
 | true=>rfl
 | false =>
  rw[za (by rfl)]
  cases a.2.1.isEmpty with
  | false=>rfl
  | true =>
   rw[zA]
   cases a.2.2.1.isEmpty with
   | true=>rfl
   | false=>rw[zr,z6 hr,z7]; rfl
theorem MT(a:Rat)(h:WA a):(og a).run=some (bY a):=by
 unfold og bY
 have hr:=nY a (xT h (by omega))
 have hl:=yq a (xT h (by omega))
 have he:=Zc a (xT h (by omega))
 have head:((T.bind (sI a) fun r=>.ite (!r) (.ret true) (.ite a.1 (.ret true) (T.bind (uO a) fun r1=>.ret r1))):T Bool).run=some (!(dP a&&(!a.1 && !vb a))):=by
  rw[z6 hr]
  cases dP a with
  | false=>rfl
  | true =>
   rw[z8 (by rfl)]
   cases a.1 with
   | true=>rfl
   | false=>rw[zr,z6 hl,z7]; simp
 rw[z6 head]
 cases q:(dP a&&(!a.1 && !vb a))with
 | false =>
  rw[za (by rfl),z7]
  congr 1
  revert q
  cases dP a<;>cases a.1<;>cases vb a<;>simp
 | true =>
  rw[z8 (by rfl),z6 he]
  generalize xP (norm a).1 (nv (norm a).2.1) (nv (norm a).2.2.1) 0 61=x
  obtain⟨x1,x2⟩:=x
  dsimp only
  rw[z7]
  congr 1
  revert q
  cases dP a<;>cases a.1<;>cases vb a<;>simp
theorem T0(k:Int):(tb k).run=some (WO k):=by
 unfold tb WO
 by_cases h1:k=1
 ·subst h1; rfl
 by_cases h2:k=2
 ·subst h2; rfl
 by_cases h7:k=7
 ·subst h7; rfl
 by_cases h3:k=3
 ·subst h3; rfl
 by_cases h4:k=4
 ·subst h4; rfl
 by_cases h5:k=5
 ·subst h5; rfl
 by_cases h6:k=6
 ·subst h6; rfl
 ·simp[h1,h2,h3,h4,h5,h6,h7]
theorem Jm(e:Expr)(h:WA e.num):(gn e).run=some (cR e):=by
 unfold gn cR
 rw[z6 (T0 _)]
 have hN:=MT e.num h
 have h0:=Fw e.num h
 have hn:=dw e.name
 cases q:((e.kids.length:Int)==WO e.kind)with
 | false=>rw[za (by rw[bne,q]; rfl),z7]; rfl
 | true =>
  rw[z8 (by rw[bne,q]; rfl),Bool.true_and]
  by_cases h1:e.kind=1
  ·rw[if_pos h1,za (by rw[h1]; rfl),z6 hN]
   cases bY e.num with
   | true=>rw[zA,z7]; rfl
   | false=>rw[zr,z7]; rfl
  ·rw[if_neg h1,z8 (by simpa using h1)]
   by_cases h2:e.kind=2
   ·rw[if_pos h2,za (by rw[h2]; rfl),z6 h0]
    cases ua e.num with
    | true=>rw[zA,z6 hn,z7]; rfl
    | false=>rw[zr,z7]; rfl
   ·rw[if_neg h2,z8 (by simpa using h2),z6 h0]
    cases ua e.num with
    | true=>rw[zA,z7]; rfl
    | false=>rw[zr,z7]; rfl
theorem z3j(e:Expr)(deep left:Nat)(h:allOk e)(hl:wu e≤left)(iM:left≤100000)(hd:deep≤32):(jV e (deep:Int) (left:Int)).run=some (vf deep e,((left-Y7 deep e:Nat):Int)):=by
 unfold jV
 refine kS (fun x:Expr×Int×Int=>allOk x.1∧0≤x.2.1∧x.2.1≤32∧(wu x.1:Int)≤x.2.2∧x.2.2≤100000) (fun x=>wu x.1) (fun x=>(vf x.2.1.toNat x.1,((x.2.2.toNat-Y7 x.2.1.toNat x.1:Nat):Int))) (fun x hx g hg => ?_) (x:=(e,(deep:Int),(left:Int))) ⟨h,by dsimp only; omega,by dsimp only; omega,by dsimp only; omega,by dsimp only; omega⟩
 obtain⟨e,d,lf⟩:=x
 obtain⟨ha,Fg,Np,hn,hlf⟩:=hx
 dsimp only at ha Fg Np hn hlf
 obtain⟨D,rfl⟩:∃ D:Nat,d=(D:Int):=⟨d.toNat,by omega⟩
 obtain⟨L,rfl⟩:∃ L:Nat,lf=(L:Int):=⟨lf.toNat,by omega⟩
 cases e with | mk k n s kids =>
 obtain⟨Ez,Ds⟩:=ha
 have Fv:wu (.mk k n s kids)=1+vZ kids:=by unfold wu; rfl
 rw[Fv]at hn
 have hv:=JR kids (D+1)
 have ew:zt ((L:Int)-1)=((L-1:Nat):Int):=by rw[zN (by omega) (by omega)]; omega
 have Tf:=Jm (.mk k n s kids) Ez
 simp only[Int.toNat_natCast]
 unfold gR
 rw[ew]
 have head:((.ite (decide (((L-1:Nat):Int)<(0:Int))) (.ret (true,((L-1:Nat):Int))) (.ite (decide ((32:Int)≤(D:Int))) (.ret (true,((L-1:Nat):Int))) (T.bind (gn (.mk k n s kids)) fun r=>.ret ((!r),((L-1:Nat):Int))))):T (Bool×Int)).run =
   some (!(decide (D<32)&&cR (.mk k n s kids)),((L-1:Nat):Int)):=by
  rw[z8 (decide_eq_false (by omega))]
  by_cases c:D<32
  ·rw[z8 (decide_eq_false (by omega)),z6 Tf,z7,decide_eq_true c,Bool.true_and]
  ·rw[za (decide_eq_true (by omega)),z7,decide_eq_false c]; rfl
 rw[z6 head]
 dsimp only
 unfold vf Y7
 cases q:(decide (D<32)&&cR (.mk k n s kids))with
 | false =>
  rw[za (by rfl),z7,if_neg (by simp),← Bool.and_assoc,q,Bool.false_and]
 | true =>
  rw[z8 (by rfl),if_pos rfl,← Bool.and_assoc,q,Bool.true_and]
  have hD:D<32:=by
   simp only[Bool.and_eq_true,decide_eq_true_eq]at q
   exact q.1
  have ed:zt ((D:Int)+1)=((D+1:Nat):Int):=by rw[zN (by omega) (by omega)]; omega
  have loop:∃ z,(q7 (fun y0 y1 y2=>g (y0,y1,y2)) kids (kids.length:Int) (((D:Int),()),((0:Int),((L-1:Nat):Int)))).run=some z ∧
    ((kU (D+1) kids=true∧z=.inl ((L-1-mK (D+1) kids:Nat):Int))∨(kU (D+1) kids=false∧∃ i:Int,0≤i∧z=.inr (i,((L-1-mK (D+1) kids:Nat):Int)))):=by
   refine T.xg (r:=zQ (fun y0 y1 y2=>g (y0,y1,y2)) kids (kids.length:Int)) (fun st:(Int×Unit)×Int×Int=>∃ (j B:Nat),st=(((D:Int),()),(j:Int),(B:Int))∧j≤kids.length∧B≤100000∧vZ (kids.drop j)≤B ∧
    B-mK (D+1) (kids.drop j)=L-1-mK (D+1) kids∧kU (D+1) (kids.drop j)=kU (D+1) kids) (fun st=>kids.length-st.2.1.toNat) _ (fun st xN => ?_) ⟨0,L-1,rfl,by omega,by omega,by rw[List.drop_zero]; omega,by rw[List.drop_zero],by rw[List.drop_zero]⟩
   obtain⟨j,B,rfl,hj,hB,hnB,hvB,HF⟩:=xN
   by_cases c:j<kids.length
   ·have hdr:kids.drop j=kids[j]::kids.drop (j+1):=List.drop_eq_getElem_cons c
    rw[hdr]at hnB hvB HF
    rw[show vZ (kids[j]::kids.drop (j+1))=wu kids[j]+vZ (kids.drop (j+1))from rfl]at hnB
    rw[show mK (D+1) (kids[j]::kids.drop (j+1))=Y7 (D+1) kids[j]+if vf (D+1) kids[j]=true then mK (D+1) (kids.drop (j+1))else 0 from rfl]at hvB
    rw[show kU (D+1) (kids[j]::kids.drop (j+1))=(vf (D+1) kids[j]&&kU (D+1) (kids.drop (j+1)))from rfl]at HF
    have VP:=ZX Ds _ (List.getElem_mem c)
    have RZ:=LN kids[j] (D+1)
    have EF:wu kids[j]<1+vZ kids:=by have:=X7 (List.getElem_mem c); omega
    have Hd:=hg (kids[j],((D+1:Nat):Int),(B:Int)) ⟨VP,by dsimp only; omega,by dsimp only; omega,by dsimp only; omega,by dsimp only; omega⟩ (by dsimp only; rw[Fv]; exact EF)
    dsimp only at Hd
    simp only[Int.toNat_natCast]at Hd
    have hf:(jr (fun y0 y1 y2=>g (y0,y1,y2)) kids[j] (D:Int) (B:Int)).run=some (!vf (D+1) kids[j],((B-Y7 (D+1) kids[j]:Nat):Int)):=by
     unfold jr
     rw[ed,z6 Hd]; rfl
    unfold zQ
    dsimp only
    rw[za (qL c),zc (zo c),qP c,z6 hf]
    dsimp only
    cases hk:vf (D+1) kids[j]with
    | true =>
     left
     rw[hk,if_pos rfl]at hvB
     rw[hk,Bool.true_and]at HF
     rw[z8 (by rfl),z7]
     have hlen:=QW kids
     rw[vr j _ c (by omega)]
     refine⟨_,rfl,⟨j+1,B-Y7 (D+1) kids[j],rfl,c,by omega,by omega,by omega,HF⟩,?_⟩
     simp only[Int.toNat_natCast]
     omega
    | false =>
     right
     rw[hk,if_neg (by simp),Nat.add_zero]at hvB
     rw[hk,Bool.false_and]at HF
     rw[za (by rfl),z7]
     exact⟨_,rfl,.inr ⟨HF.symm,(j:Int),by omega,by rw[hvB]⟩⟩
   ·right
    have hj2:j=kids.length:=by omega
    subst hj2
    rw[List.drop_length]at hvB HF
    unfold zQ
    dsimp only
    rw[z8 (xi _),z7]
    exact⟨_,rfl,.inl ⟨HF.symm,by rw[← hvB]; rfl⟩⟩
  obtain⟨z,hz,hc⟩:=loop
  have hcf:(qj (fun y0 y1 y2=>g (y0,y1,y2)) kids ((D:Int),()) ((L-1:Nat):Int)).run=some (!kU (D+1) kids,((L-1-mK (D+1) kids:Nat):Int)):=by
   unfold qj qU
   rcases hc with⟨ho,rfl⟩ | ⟨ho,i,hi,rfl⟩
   ·have:((T.bind (q7 (fun y0 y1 y2=>g (y0,y1,y2)) kids (kids.length:Int) (((D:Int),()),((0:Int),((L-1:Nat):Int))))<|Sum.elim (fun v2=>.ret ((-1:Int),v2)) (fun(x2,v3)=>.ret (x2,v3))):T (Int×Int)).run=some (-1,((L-1-mK (D+1) kids:Nat):Int)):=by
     rw[z6 hz]; rfl
    rw[z6 this,ho]; rfl
   ·have:((T.bind (q7 (fun y0 y1 y2=>g (y0,y1,y2)) kids (kids.length:Int) (((D:Int),()),((0:Int),((L-1:Nat):Int))))<|Sum.elim (fun v2=>.ret ((-1:Int),v2)) (fun(x2,v3)=>.ret (x2,v3))):T (Int×Int)).run=some (i,((L-1-mK (D+1) kids:Nat):Int)):=by
     rw[z6 hz]; rfl
    rw[z6 this,ho,z7,decide_eq_true hi]; rfl
  rw[show Expr.kids (.mk k n s kids)=kids from rfl,z6 hcf]
  dsimp only
  rw[z7,Bool.not_not]
  congr 3
  omega
theorem Tt(e:Expr)(h:allOk e)(hn:wu e≤256):(uA e).run=some (vf 0 e):=by
 unfold uA
 have:=z3j e 0 256 h hn (by omega) (by omega)
 have this:(jV e 0 256).run=some (vf 0 e,((256-Y7 0 e:Nat):Int)):=this
 rw[z6 this]; rfl
def dd(acc:List zf)(xs:List zf):List zf:=xs.foldl (fun b x=>if x∈b then b else b++[x]) acc
theorem W9(acc:List zf):dd acc []=acc:=rfl
theorem tC(acc:List zf)(x:zf)(r:List zf):dd acc (x::r)=dd (if x∈acc then acc else acc++[x]) r:=rfl
theorem tx(acc a b:List zf):dd acc (a++b)=dd (dd acc a) b:=by unfold dd; rw[List.foldl_append]
theorem EG(acc xs:List zf)(x:zf):x∈dd acc xs↔x∈acc∨x∈xs:=by
 induction xs generalizing acc with
 | nil=>simp[W9]
 | cons y r ih =>
  rw[tC,ih,List.mem_cons]
  by_cases h:y∈acc
  ·rw[if_pos h]
   constructor
   ·rintro(a | b); exact .inl a; exact .inr (.inr b)
   ·rintro(a | b | c); exact .inl a; exact .inl (b▸h); exact .inr c
  ·rw[if_neg h,List.mem_append,List.mem_singleton,or_assoc]
theorem C2(b s xs:List zf):dd b (dd s xs)=dd (dd b s) xs:=by
 induction xs generalizing s with
 | nil=>rfl
 | cons y r ih =>
  rw[tC,ih,tC]
  by_cases h:y∈s
  ·rw[if_pos h,if_pos ((EG b s y).2 (.inr h))]
  ·rw[if_neg h,tx,tC,W9]
theorem z0z(b xs:List zf):dd b (dd [] xs)=dd b xs:=by rw[C2,W9]
end Go.AM.Lf
namespace Go.AM.PL
def Wg:zf→List zf×zf
 | []=>([],[])
 | b::r=>if b=10 then([]::(Wg r).1,(Wg r).2)else match(Wg r).1 with
  | []=>([],b::(Wg r).2)
  | l::ls=>((b::l)::ls,(Wg r).2)
end Go.AM.PL
namespace Go.AM.Lf
open PL
def zdW(u:zf):Option Rat:=if 400<u.length then none else(z1Z u).map fun p=>kO (List.isPrefixOf [45] u) p.1 p.2
def z9o(t:zf):Option ItT:=match zdW (Pv t [32]).2.1 with
 | some r=>if w6 (Pv t [32]).1=true then some ((Pv t [32]).1,r,())else none
 | none=>none
def PN:List zf→Option (List ItT)
 | []=>some []
 | t::r=>match z9o t with
  | some x=>(PN r).map (x :: ·)
  | none=>none
theorem vn(s:zf):(vV s).run=some (w6 s):=by
 have hL:∀ b:UInt8,(kJ (b.toNat:Int)).run=some (Rv b):=fun _=>rfl
 have hD:∀ b:UInt8,(oi (b.toNat:Int)).run=some (decide (48≤(b.toNat:Int))&&decide ((b.toNat:Int)≤57)):=fun _=>rfl
 unfold vV
 cases s with
 | nil=>rfl
 | cons b r =>
  by_cases c:24<(b::r).length
  ·have:(T.ite (decide (((b::r).length:Int)<(1:Int))) (.ret true) (.ite (decide ((24:Int)<((b::r).length:Int))) (.ret true) (.zd (zi (0:Int) (List.length (b::r)))<|T.bind (kJ (wA (b::r) (0:Int))) fun r=>.ret (!r))):T Bool).run=some true:=by
    rw[z8 (decide_eq_false (by omega)),za (decide_eq_true (by omega)),z7]
   rw[z6 this,zA,z7]
   unfold w6
   rw[decide_eq_false (by omega)]; rfl
  ·have hb:wA (b::r) (0:Int)=(b.toNat:Int):=nZ (s:=b::r) (k:=0) (by simp)
   have:(T.ite (decide (((b::r).length:Int)<(1:Int))) (.ret true) (.ite (decide ((24:Int)<((b::r).length:Int))) (.ret true) (.zd (zi (0:Int) (List.length (b::r)))<|T.bind (kJ (wA (b::r) (0:Int))) fun r=>.ret (!r))):T Bool).run=some (!Rv b):=by
    rw[z8 (decide_eq_false (by simp only[List.length_cons]; omega)),z8 (decide_eq_false (by omega)),zc (by refine⟨by omega,?_⟩; simp only[List.length_cons]; omega),hb,z6 (hL b),z7]
   rw[z6 this]
   unfold w6
   dsimp only
   rw[decide_eq_true (by omega),Bool.true_and]
   cases hbl:Rv b with
   | false=>rw[za (by rfl),z7]; rfl
   | true =>
    rw[z8 (by rfl),Bool.true_and]
    have hbi:ZQ b=true:=by unfold ZQ; rw[hbl]; rfl
    have key:(Xc (b::r) 1).run=some (if r.all ZQ=true then .inl ()else .inr false):=by
     have Sc:=ud (r:=kN (b::r)) (fun i=>∃ k:Nat,i=((k+1:Nat):Int)∧k≤r.length) (fun i=>((b::r).length:Int).toNat-i.toNat) (fun i=>if(r.drop (i.toNat-1)).all ZQ=true then .inl ()else .inr false) (fun i hi => ?_) (s:=1) ⟨0,rfl,by omega⟩
     ·exact Sc
     ·obtain⟨k,rfl,hk⟩:=hi
      have ek:((k+1:Nat):Int).toNat-1=k:=by omega
      by_cases q:k<r.length
      ·have hq:k+1<(b::r).length:=by simp only[List.length_cons]; omega
       have DH:wA (b::r) ((k+1:Nat):Int)=(r[k].toNat:Int):=by rw[nZ hq]; rfl
       have DC:r.drop k=r[k]::r.drop (k+1):=List.drop_eq_getElem_cons q
       have Xd:((.zd (zi ((k+1:Nat):Int) (List.length (b::r)))<|T.bind (kJ (wA (b::r) ((k+1:Nat):Int))) fun r1 =>
         .ite (!r1) (.zd (zi ((k+1:Nat):Int) (List.length (b::r)))<|T.bind (oi (wA (b::r) ((k+1:Nat):Int))) fun r2 =>
           .ite (!r2) (.zd (zi ((k+1:Nat):Int) (List.length (b::r)))<|.ret ((wA (b::r) ((k+1:Nat):Int)) != (95:Int))) (.ret false)) (.ret false)):T Bool).run=some (!ZQ r[k]):=by
        rw[zc (zo hq),DH,z6 (hL _)]
        unfold ZQ
        cases Rv r[k]with
        | true=>rfl
        | false =>
         rw[za (by rfl),zc (zo hq),z6 (hD _)]
         cases(decide (48≤(r[k].toNat:Int))&&decide ((r[k].toNat:Int)≤57))with
         | true=>rfl
         | false=>rw[za (by rfl),zc (zo hq),z7]; rfl
       cases hik:ZQ r[k]with
       | true =>
        left
        refine⟨((k+1+1:Nat):Int),?_,⟨k+1,rfl,q⟩,by simp only[List.length_cons]; omega,?_⟩
        ·unfold kN
         rw[za (qL hq),z6 Xd,hik,z8 (by rfl),z7,vr (k+1) _ hq (by omega)]
        ·rw[ek,DC,List.all_cons,hik,Bool.true_and,show((k+1+1:Nat):Int).toNat-1=k+1 by omega]
       | false =>
        right
        unfold kN
        rw[za (qL hq),z6 Xd,hik,za (by rfl),z7,ek,DC,List.all_cons,hik]
        rfl
      ·right
       have yh:k=r.length:=by omega
       unfold kN
       rw[z8 (decide_eq_false (by simp only[List.length_cons]; omega)),z7,ek,yh,List.drop_length]; rfl
    rw[z6 key,List.all_cons,hbi,Bool.true_and]
    cases h:r.all ZQ with
    | true=>rfl
    | false=>rfl
def zgR(l:List ItT):zf:=l.flatMap zaV
def KB(s:zf):List ItT×Int:=match PN (Wg s).1 with
 | some ys=>if zgR ys=s then(ys,0)else([],2)
 | none=>([],2)
theorem zdA(a b:Rat):((a.1==b.1)&&((a.2.1==b.2.1)&&(a.2.2.1==b.2.2.1)))=true↔a=b:=by
 obtain⟨a1,a2,a3,⟨⟩⟩:=a
 obtain⟨b1,b2,b3,⟨⟩⟩:=b
 simp only[Bool.and_eq_true,beq_iff_eq,Prod.mk.injEq,and_true]
theorem SY(a:Rat)(h1:zu a.2.1)(h2:zu a.2.2.1):dP a=true↔norm a=a:=by
 unfold dP norm
 obtain⟨b,N,D,⟨⟩⟩:=a
 dsimp only at h1 h2 ⊢
 simp only[Bool.and_eq_true,Bool.not_eq_true',beq_eq_false_iff_ne,beq_iff_eq,Bool.and_eq_false_imp]
 constructor
 ·rintro⟨t1,t2,hd,hn,hg⟩
  have eN:zH (nv N)=N:=Q7 h1 ((jn h1).1 t1)
  have eD:zH (nv D)=D:=Q7 h2 ((jn h2).1 t2)
  unfold kO
  by_cases c:nv N=0
  ·rw[if_pos (.inl c)]
   rw[c,Nat.gcd_zero_left]at hg
   rw[c,qA]at eN
   rw[hg,lB]at eD
   cases b with
   | true=>exact absurd c (hn rfl)
   | false=>rw[← eN,← eD]
  ·rw[if_neg (by rintro(h | h); exact c h; exact hd h),hg,Nat.div_one,Nat.div_one,eN,eD]
 ·intro e
  unfold kO at e
  by_cases c:nv N=0∨nv D=0
  ·rw[if_pos c]at e
   simp only[Prod.mk.injEq,and_true]at e
   obtain⟨rfl,rfl,rfl⟩:=e
   refine⟨by rw[jn h1]; exact Wx,?_,by decide,by simp,by decide⟩
   rw[jn h2,← lB]; exact sT _
  ·rw[if_neg c]at e
   simp only[Prod.mk.injEq,and_true,true_and]at e
   obtain⟨e1,e2⟩:=e
   simp only[not_or]at c
   have v1:nv N=nv N / Nat.gcd (nv N) (nv D):=by conv=>lhs; rw[← e1,zO]
   refine⟨by rw[jn h1,← e1]; exact sT _,by rw[jn h2,← e2]; exact sT _,c.2,fun _=>c.1,?_⟩
   have hp:0<nv N:=Nat.pos_of_ne_zero c.1
   by_cases g:Nat.gcd (nv N) (nv D)=1
   ·exact g
   ·have hg0:0<Nat.gcd (nv N) (nv D):=Nat.gcd_pos_of_pos_left _ hp
    have:=Nat.div_lt_self hp (by omega:1<Nat.gcd (nv N) (nv D))
    omega
theorem UD(a b:List Int)(la:a.length≤1000000000):(uW a b).run=some (a==b):=by
 unfold uW
 by_cases hlen:a.length=b.length
 ·have key:(cM a b 0).run=some (if a=b then .inl ()else .inr false):=by
   have h:=ud (r:=wP a b) (fun i=>∃ k:Nat,i=(k:Int)∧k≤a.length) (fun i=>a.length-i.toNat) (fun i=>if a.drop i.toNat=b.drop i.toNat then .inl ()else .inr false) (fun i hi => ?_) (s:=0) ⟨0,rfl,by omega⟩
   ·unfold cM; simpa using h
   ·obtain⟨k,rfl,hk⟩:=hi
    by_cases c:k<a.length
    ·have cb:k<b.length:=by omega
     have ea:a.drop k=a[k]::a.drop (k+1):=List.drop_eq_getElem_cons c
     have eb:b.drop k=b[k]::b.drop (k+1):=List.drop_eq_getElem_cons cb
     have ek:((k:Nat):Int).toNat=k:=rfl
     have R4:(a.drop k=b.drop k)↔(a[k]=b[k]∧a.drop (k+1)=b.drop (k+1)):=by rw[ea,eb,List.cons.injEq]
     have ek1:((k+1:Nat):Int).toNat=k+1:=rfl
     by_cases q:a[k]=b[k]
     ·left
      refine⟨((k+1:Nat):Int),?_,⟨k+1,rfl,c⟩,by omega,?_⟩
      ·unfold wP
       rw[za (qL c),zc (zo c),zc (zo cb),qP c,qP cb,z8 (by simp[q]),z7,vr k _ c (by omega)]
      ·simp only[ek,ek1,R4,q,true_and]
     ·right
      unfold wP
      rw[za (qL c),zc (zo c),zc (zo cb),qP c,qP cb,za (by simp[q]),z7,ek,if_neg (by rw[R4]; exact fun h=>q h.1)]
    ·right
     have yh:k=a.length:=by omega
     unfold wP
     rw[z8 (decide_eq_false (by omega)),z7,yh]
     simp[hlen]
  rw[z8 (by rw[hlen]; simp),z6 key]
  by_cases e:a=b
  ·rw[if_pos e,e]; simp
  ·rw[if_neg e]
   have:(a==b)=false:=by simpa using e
   rw[this]; rfl
 ·have e:(a==b)=false:=by
   rw[beq_eq_false_iff_ne]
   intro e; exact hlen (by rw[e])
  rw[za (by simp; omega),z7,e]
theorem Vt(a:Rat)(h:xd 100000000 a):(QG a).run=some (dP a):=by
 unfold QG
 have hb:dP a=((a.1==(norm a).1)&&((a.2.1==(norm a).2.1)&&(a.2.2.1==(norm a).2.2.1))):=by
  rw[Bool.eq_iff_iff,SY a h.1 h.2.1,zdA]
  exact⟨fun e=>e.symm,fun e=>e.symm⟩
 rw[z6 (xO a h),hb]
 cases a.1==(norm a).1 with
 | false=>rfl
 | true =>
  rw[zA,z6 (UD _ _ (by have:=h.2.2.1; omega))]
  cases a.2.1==(norm a).2.1 with
  | false=>rfl
  | true=>rw[zA,z6 (UD _ _ (by have:=h.2.2.2; omega)),z7]; rfl
theorem ij(a:Rat)(h:xd 100000000 a):(ki a).run=some (vb a):=by
 unfold ki vb
 rw[z6 (xO a h),z7]
 congr 2
 ·exact decide_eq_decide.2 (by omega)
 ·exact decide_eq_decide.2 (by omega)
theorem mf(a:Rat)(h:xd 100000000 a):(cx a).run=some (dP a && !vb a):=by
 unfold cx
 rw[z6 (Vt a h)]
 cases dP a with
 | false=>rfl
 | true=>rw[zA,z6 (ij a h),z7]; rfl
theorem Nx(a:Rat)(h:WA a):(jU a).run=some (ua a):=by
 unfold jU ua
 have hr:=Vt a (xT h (by omega))
 have e:∀ l:List Int,(((l.length:Int))==0)=l.isEmpty:=fun l=>by cases l<;>simp; omega
 rw[e,e]
 cases a.1 with
 | true=>rfl
 | false =>
  rw[za (by rfl)]
  cases a.2.1.isEmpty with
  | false=>rfl
  | true =>
   rw[zA]
   cases a.2.2.1.isEmpty with
   | true=>rfl
   | false=>rw[zr,z6 hr,z7]; rfl
theorem SR(g:Expr×Int→T Bool)(kids:List Expr)(k0:Int)(n0:Rat)(s0:zf)(D:Nat)(hl:kids.length≤100000)
  (hg:∀ e∈kids,(g (e,zt (((D+1:Nat):Int)+1))).run=some (vf (D+1) e)) :
  (pM (fun y0 y1=>g (y0,y1)) ((D+1:Nat):Int) (.mk k0 n0 s0 kids) (kids.length:Int) 0).run=some (if kU (D+1) kids=true then .inl ()else .inr false):=by
 refine T.jt (r:=cV (fun y0 y1=>g (y0,y1)) ((D+1:Nat):Int) (.mk k0 n0 s0 kids) (kids.length:Int)) kids (zb .expr) (fun(_:Unit) i=>i) (fun _ _=>True) (fun l _=>(if kU (D+1) l=true then .inl ()else .inr false:Unit⊕Bool)) (fun k _ x xs hk hx hm hd hI => ?_) (fun _ _ => ?_) (b:=()) trivial
 ·have E5:=hg x hm
  have ek:Expr.kids (.mk k0 n0 s0 kids)=kids:=rfl
  unfold cV
  rw[za (qL hk),ek,zc (zo hk),hx,z6 E5]
  cases q:vf (D+1) x with
  | true =>
   left
   refine⟨(),?_,trivial,?_⟩
   ·rw[z8 (by rfl),z7,vr k _ hk (by omega)]
   ·show _=(if(vf (D+1) x&&kU (D+1) xs)=true then _ else _)
    rw[q,Bool.true_and]
  | false =>
   right
   rw[za (by rfl),z7]
   show _=some (Sum.inr (if(vf (D+1) x&&kU (D+1) xs)=true then _ else _))
   rw[q,Bool.false_and]; rfl
 ·unfold cV
  rw[z8 (xi _),z7]; rfl
theorem Is(e:Expr)(deep:Nat)(h:allOk e)(hn:wu e≤100000)(hd:deep≤32):(nj e ((deep+1:Nat):Int)).run=some (vf deep e):=by
 unfold nj
 refine kS (fun x:Expr×Int=>allOk x.1∧wu x.1≤100000∧1≤x.2∧x.2≤33) (fun x=>wu x.1) (fun x=>vf (x.2.toNat-1) x.1) (fun x hx g hg => ?_) (x:=(e,((deep+1:Nat):Int))) ⟨h,hn,by dsimp only; omega,by dsimp only; omega⟩
 obtain⟨e,d⟩:=x
 obtain⟨ha,hn,Fg,Np⟩:=hx
 dsimp only at ha hn Fg Np
 obtain⟨D,rfl⟩:∃ D:Nat,d=((D+1:Nat):Int):=⟨d.toNat-1,by omega⟩
 cases e with | mk k n s kids =>
 obtain⟨Ez,Ds⟩:=ha
 have Fv:wu (.mk k n s kids)=1+vZ kids:=rfl
 have hlen:=QW kids
 have Rr:(((D+1:Nat):Int)).toNat-1=D:=by omega
 dsimp only
 rw[Rr]
 unfold nB
 show _=some (decide (D<32)&&(cR (.mk k n s kids)&&kU (D+1) kids))
 by_cases c:D<32
 ·rw[z8 (decide_eq_false (by omega)),decide_eq_true c,Bool.true_and]
  have hN:=rL n (xT Ez (by omega))
  have hG:=mf n (xT Ez (by omega))
  have hB:=Nx n Ez
  have hNm:=vn s
  have e0:∀ m:Nat,(((m:Int))==0)=(((m:Int))==(0:Int)):=fun _=>rfl
  have Hd:∀ e∈kids,(g (e,zt (((D+1:Nat):Int)+1))).run=some (vf (D+1) e):=fun e he=>by
   have hm:=X7 he
   have ew:zt (((D+1:Nat):Int)+1)=((D+1+1:Nat):Int):=by rw[zN (by omega) (by omega)]; omega
   have:=hg (e,((D+1+1:Nat):Int)) ⟨ZX Ds e he,by dsimp only; omega,by dsimp only; omega,by dsimp only; omega⟩ (by dsimp only; rw[Fv]; omega)
   rw[ew,this]
   dsimp only
   rw[show(((D+1+1:Nat):Int)).toNat-1=D+1 by omega]
  have Sc:=SR g kids k n s D (by omega) Hd
  have z9v:Expr.kids (.mk k n s kids)=kids:=rfl
  have zbR:Expr.kind (.mk k n s kids)=k:=rfl
  have z9u:Expr.name (.mk k n s kids)=s:=rfl
  have zbi:Expr.num (.mk k n s kids)=n:=rfl
  have tail:∀ kd:Int,(T.bind (.ite ((Nat.cast (List.length kids):Int) != kd) (.ret true) (.ite (!(zF s ([]:zf))) (.ret true) (T.bind (jU n) fun r4=>.ret (!r4))):T Bool) fun x1 =>
     .ite x1 (.ret false) (T.bind (pM (fun y0 y1=>g (y0,y1)) ((D+1:Nat):Int) (.mk k n s kids) kd (0:Int))<|Sum.elim (fun _=>.ret true) (fun x2=>.ret x2)):T Bool).run =
     some (((kids.length:Int)==kd)&&((ua n&&zF s [])&&kU (D+1) kids)):=by
   intro kd
   have head:(.ite ((Nat.cast (List.length kids):Int) != kd) (.ret true) (.ite (!(zF s ([]:zf))) (.ret true) (T.bind (jU n) fun r4=>.ret (!r4))):T Bool).run=some (!(((kids.length:Int)==kd)&&(ua n&&zF s []))):=by
    cases q:((kids.length:Int)==kd)with
    | false=>rw[za (by rw[bne,q]; rfl)]; rfl
    | true =>
     rw[z8 (by rw[bne,q]; rfl)]
     cases zF s []with
     | false=>rw[za (by rfl),z7,Bool.and_false]; rfl
     | true=>rw[z8 (by rfl),z6 hB,z7,Bool.and_true,Bool.true_and]
   rw[z6 head]
   cases q:((kids.length:Int)==kd)with
   | false=>rfl
   | true =>
    have hkd:kd=(kids.length:Int):=by
     have:(kids.length:Int)=kd:=by simpa using q
     exact this.symm
    subst hkd
    rw[Bool.true_and,Bool.true_and]
    cases(ua n&&zF s [])with
    | false=>rfl
    | true =>
     rw[z8 (by rfl),z6 Sc,Bool.true_and]
     cases kU (D+1) kids<;>rfl
  unfold cR WO
  rw[z9v,zbR,z9u,zbi]
  by_cases h1:k=1
  ·subst h1
   have head:(T.bind (ct n) fun(r,ok)=>.ite ((Nat.cast (List.length kids):Int)==(0:Int)) (.ite (zF s ([]:zf)) (T.bind (cx n) fun r1=>.ite r1 (.ite (!n.1) (.ret (.inr ok)) (.ret (.inr false))) (.ret (.inr false))) (.ret (.inr false))) (.ret (.inr false)):T (Int⊕Bool)).run=some (.inr (((kids.length:Int)==0)&&(bY n&&zF s []))):=by
    rw[z6 hN]
    unfold bY
    generalize xP (norm n).1 (nv (norm n).2.1) (nv (norm n).2.2.1) 0 61=x
    obtain⟨x1,x2⟩:=x
    dsimp only
    cases(Nat.cast (List.length kids):Int)==(0:Int)with
    | false=>rfl
    | true =>
     rw[zA]
     cases zF s []with
     | false=>rw[zr,z7,Bool.and_false]; rfl
     | true =>
      rw[zA,z6 hG]
      cases dP n<;>cases vb n<;>cases n.1<;>cases x2<;>rfl
   refine(z6 (a:=.inr (((kids.length:Int)==0)&&(bY n&&zF s []))) ?_ _).trans ?_
   ·rw[za (by rfl)]; exact head
   ·rw[Sum.elim_inr,z7,if_pos (.inl rfl),if_pos rfl]
    cases q:((kids.length:Int)==0)with
    | false=>rfl
    | true =>
     have:kids=[]:=List.eq_nil_of_length_eq_zero (by have:(kids.length:Int)=0:=(by simpa using q); omega)
     subst this
     show _=some (true&&(bY n&&zF s [])&&true)
     rw[Bool.and_true]
  ·by_cases h2:k=2
   ·subst h2
    have head:(.ite ((Nat.cast (List.length kids):Int)==(0:Int)) (T.bind (vV s) fun r2=>.ite r2 (T.bind (jU n) fun r3=>.ret (.inr r3)) (.ret (.inr false))) (.ret (.inr false)):T (Int⊕Bool)).run=some (.inr (((kids.length:Int)==0)&&(ua n&&w6 s))):=by
     cases(Nat.cast (List.length kids):Int)==(0:Int)with
     | false=>rfl
     | true =>
      rw[zA,z6 hNm]
      cases w6 s with
      | false=>rw[zr,z7,Bool.and_false]; rfl
      | true=>rw[zA,z6 hB,z7,Bool.and_true,Bool.true_and]
    refine(z6 (a:=.inr (((kids.length:Int)==0)&&(ua n&&w6 s))) ?_ _).trans ?_
    ·rw[z8 (by rfl),za (by rfl)]; exact head
    ·rw[Sum.elim_inr,z7,if_pos (.inr rfl),if_neg (by decide),if_pos rfl]
     cases q:((kids.length:Int)==0)with
     | false=>rfl
     | true =>
      have:kids=[]:=List.eq_nil_of_length_eq_zero (by have:(kids.length:Int)=0:=(by simpa using q); omega)
      subst this
      show _=some (true&&(ua n&&w6 s)&&true)
      rw[Bool.and_true]
   ·have k1:(k==1)=false:=by simpa using h1
    have k2:(k==2)=false:=by simpa using h2
    have fin:∀ kd:Int,(if k=7 then(1:Int)else if k=3∨k=4∨k=5∨k=6 then 2 else -1)=kd→((((kids.length:Int)==kd)&&((ua n&&zF s [])&&kU (D+1) kids))) =
      ((((kids.length:Int)==(if k=1∨k=2 then(0:Int)else if k=7 then 1 else if k=3∨k=4∨k=5∨k=6 then 2 else -1))&&(if k=1 then bY n&&zF s []else if k=2 then ua n&&w6 s else ua n&&zF s []))&&kU (D+1) kids):=by
     intro kd hkd
     rw[if_neg (by rintro(h | h); exact h1 h; exact h2 h),hkd,if_neg h1,if_neg h2]
     simp only[Bool.and_assoc]
    by_cases h7:k=7
    ·refine(z6 (a:=.inl 1) ?_ _).trans ?_
     ·rw[z8 k1,z8 k2,za (by simpa using h7),z7]
     ·rw[Sum.elim_inl,← fin 1 (by rw[if_pos h7])]; exact tail 1
    ·have k7:(k==7)=false:=by simpa using h7
     by_cases h3:k=3
     ·refine(z6 (a:=.inl 2) ?_ _).trans ?_
      ·rw[z8 k1,z8 k2,z8 k7,za (by simpa using h3),z7]
      ·rw[Sum.elim_inl,← fin 2 (by rw[if_neg h7,if_pos (.inl h3)])]; exact tail 2
     ·have k3:(k==3)=false:=by simpa using h3
      by_cases h4:k=4
      ·refine(z6 (a:=.inl 2) ?_ _).trans ?_
       ·rw[z8 k1,z8 k2,z8 k7,z8 k3,za (by simpa using h4),z7]
       ·rw[Sum.elim_inl,← fin 2 (by rw[if_neg h7,if_pos (.inr (.inl h4))])]; exact tail 2
      ·have k4:(k==4)=false:=by simpa using h4
       by_cases h5:k=5
       ·refine(z6 (a:=.inl 2) ?_ _).trans ?_
        ·rw[z8 k1,z8 k2,z8 k7,z8 k3,z8 k4,za (by simpa using h5),z7]
        ·rw[Sum.elim_inl,← fin 2 (by rw[if_neg h7,if_pos (.inr (.inr (.inl h5)))])]; exact tail 2
       ·have k5:(k==5)=false:=by simpa using h5
        by_cases h6:k=6
        ·refine(z6 (a:=.inl 2) ?_ _).trans ?_
         ·rw[z8 k1,z8 k2,z8 k7,z8 k3,z8 k4,z8 k5,za (by simpa using h6),z7]
         ·rw[Sum.elim_inl,← fin 2 (by rw[if_neg h7,if_pos (.inr (.inr (.inr h6)))])]; exact tail 2
        ·have k6:(k==6)=false:=by simpa using h6
         refine(z6 (a:=.inr false) ?_ _).trans ?_
         ·rw[z8 k1,z8 k2,z8 k7,z8 k3,z8 k4,z8 k5,z8 k6,z7]
         ·rw[Sum.elim_inr,z7,← fin (-1) (by rw[if_neg h7,if_neg (by rintro(h | h | h | h)<;>contradiction)])]
          have:((kids.length:Int) == -1)=false:=by simp
          rw[this]; rfl
 ·rw[za (decide_eq_true (by omega)),z7,decide_eq_false c]; rfl
theorem gN(l:List zf)(s:zf)(hl:l.length≤1000000000):(yN l s).run=some (decide (s∈l)):=by
 have key:(Vv l s 0).run=some (if s∈l then .inr true else .inl ()):=by
  refine T.jt (r:=dm l s) l (zb .str) (fun(_:Unit) i=>i) (fun _ _=>True) (fun l _=>(if s∈l then .inr true else .inl ():Unit⊕Bool)) (fun k _ x xs hk hx hm hd hI => ?_) (fun _ _ => ?_) (b:=()) trivial
  ·unfold dm
   rw[za (qL hk),zc (zo hk),hx,xH]
   by_cases q:x=s
   ·right
    rw[za (decide_eq_true q),z7,if_pos (by simp[q])]
   ·left
    refine⟨(),?_,trivial,?_⟩
    ·rw[z8 (decide_eq_false q),z7,vr k _ hk (by omega)]
    ·have:(s∈x::xs)↔s∈xs:=by rw[List.mem_cons]; exact⟨fun h=>h.resolve_left fun e=>q e.symm,.inr⟩
     simp only[this]
  ·unfold dm
   rw[z8 (xi _),z7,if_neg (by simp)]
 unfold yN
 rw[z6 key]
 by_cases h:s∈l
 ·rw[if_pos h,decide_eq_true h]; rfl
 ·rw[if_neg h,decide_eq_false h]; rfl
theorem F9(xs acc:List zf):(dd acc xs).length≤acc.length+xs.length:=by
 induction xs generalizing acc with
 | nil=>simp[W9]
 | cons x r ih =>
  rw[tC]
  have:=ih (if x∈acc then acc else acc++[x])
  have h2:(if x∈acc then acc else acc++[x]).length≤acc.length+1:=by split<;>simp
  simp only[List.length_cons]; omega
mutual
theorem Jb:∀ e:Expr,(allE e).length≤bkE e
 | .mk k n s l=>by
  have:=YA l
  unfold allE bkE
  rw[List.length_append]
  split<;>simp<;>omega
theorem YA:∀ l:List Expr,(allEs l).length≤bkEs l
 | []=>by simp[allEs]
 | e::r=>by
  have h1:=Jb e
  have h2:=YA r
  unfold allEs bkEs
  rw[List.length_append]; omega
end
theorem Cv(g:Expr→T (List zf))(e:Expr)(i:Int)(m acc:List zf)(hm:m.length≤10000000)(ha:acc.length≤10000000) :
  (Zd (fun y0=>g y0) e i m (0,acc)).run=some (dd acc m):=by
 have key:=T.nd (r:=yi (fun y0=>g y0) e i m) m (zb .str) (fun(b:List zf) i=>(i,b)) (fun k b=>b.length≤acc.length+k) (fun b x=>if x∈b then b else b++[x]) id (fun k b x hk hx hm' hI => ?_) (fun b hI => ?_) (b:=acc) (by simp)
 ·exact key.1
 ·have hH:=gN b x (by omega)
  unfold yi
  dsimp only
  rw[za (qL hk),zc (zo hk),hx,T.zk,Nat.zero_add,List.take_length,List.drop_zero,z6 hH]
  by_cases q:x∈b
  ·rw[decide_eq_true q,if_pos q,z8 (by rfl),ze _ rfl rfl rfl,T.zk,z7,vr k _ hk (by omega)]
   exact⟨rfl,by omega⟩
  ·rw[decide_eq_false q,if_neg q,za (by rfl),zc (zo hk),qT _ rfl rfl rfl (by omega),ze _ (by simp) rfl (by simp),zc (by simp),z7,vr k _ hk (by omega)]
   exact⟨rfl,by simp; omega⟩
 ·unfold yi
  dsimp only
  rw[z8 (xi _),ze _ rfl rfl rfl,T.zk,z7]; rfl
theorem rm(e:Expr)(hb:bkE e≤1000000):(fB e).run=some (dd [] (allE e)):=by
 unfold fB
 refine kS (fun x:Expr=>bkE x≤1000000) (fun x=>bkE x) (fun x=>dd [] (allE x)) (fun x hx g hg => ?_) (x:=e) hb
 have hk:=gq x
 have Ev:=iJ x.kids
 have loop:∀ acc:List zf,acc.length≤1→(ym (fun y0=>g y0) x (0,acc)).run=some (dd acc (allEs x.kids)):=by
  intro acc FA
  have key:=mW (r:=yD (fun y0=>g y0) x) x.kids (zb .expr) (fun(b:List zf) i=>(i,b)) (fun b r=>b.length+bkEs r≤1+bkEs x.kids∧∀ y∈r,y∈x.kids) (fun r b=>dd b (allEs r)) ?_ ?_ ⟨(by omega:acc.length+bkEs x.kids≤1+bkEs x.kids),fun y hy=>hy⟩
  ·exact key
  ·rintro b y ys i h0 hi hy ⟨h1,h2⟩
   obtain⟨j,rfl⟩:∃ j:Nat,i=(j:Int):=⟨i.toNat,by omega⟩
   have hj:j<x.kids.length:=by omega
   simp only[bkEs]at h1
   have hm:=hO (h2 y List.mem_cons_self)
   have hr:=hg y (by omega) (by omega)
   have hl:=Jb y
   have hd:=F9 (allE y) []
   simp only[List.length_nil]at hd
   have Xd:=Cv g x (j:Int) (dd [] (allE y)) b (by omega) (by omega)
   rw[z0z]at Xd
   have hbl:=F9 (allE y) b
   refine .inl ⟨dd b (allE y),?_,⟨by omega,fun z hz=>h2 z (List.mem_cons_of_mem _ hz)⟩,?_⟩
   ·unfold yD
    dsimp only
    rw[za (decide_eq_true hi),zc ⟨h0,hi⟩,hy,z6 hr,ze _ rfl rfl rfl,T.zk,z6 Xd,ze _ rfl rfl rfl,T.zk,z7,zN (by omega) (by omega)]
   ·show dd (dd b (allE y)) (allEs ys)=dd b (allE y++allEs ys)
    rw[tx]
  ·rintro b _
   unfold yD
   dsimp only
   rw[z8 (xi _),ze _ rfl rfl rfl,T.zk,z7]; rfl
 unfold eT
 cases x with | mk k n s kids =>
 by_cases h2:k=2
 ·subst h2
  have hL:=loop [s] (by simp)
  have hL:(ym (fun y0=>g y0) (.mk 2 n s kids) ((0:Int),([Expr.name (.mk 2 n s kids)]:List zf))).run=some (dd [s] (allEs kids)):=hL
  rw[za (by rfl),zD _ (by omega),ze _ rfl rfl rfl,T.zk,z6 hL,T.zk,z7,Nat.zero_add,List.take_length,List.drop_zero]
  rfl
 ·have hL:=loop [] (by simp)
  have hL:(ym (fun y0=>g y0) (.mk k n s kids) ((0:Int),([]:List zf))).run=some (dd [] (allEs kids)):=hL
  rw[z8 (by show(k==2)=false; simpa using h2),ze _ rfl rfl rfl,T.zk,z6 hL,T.zk,z7,Nat.zero_add,List.take_length,List.drop_zero]
  show some (dd [] (allEs kids))=some (dd [] ((if k=2 then[s]else[])++allEs kids))
  rw[if_neg h2]; rfl
theorem Xw(e:Expr)(F:List zf)(hb:bkE e≤1000000)(hF:F.length≤1000000000):(gV e F).run=some (oA e F):=by
 have hN:=rm e hb
 have hl:=F9 (allE e) []
 have iM:=Jb e
 simp only[List.length_nil]at hl
 have key:∀ l:List zf,l.length≤1000000000→(Vm F l 0).run=some (if ∃ x∈l,x∈F then .inr true else .inl ()):=by
  intro l hl
  refine T.jt (r:=cU F l) l (zb .str) (fun(_:Unit) i=>i) (fun _ _=>True) (fun l _=>(if ∃ x∈l,x∈F then .inr true else .inl ():Unit⊕Bool)) (fun k _ x xs hk hx hm hd hI => ?_) (fun _ _ => ?_) (b:=()) trivial
  ·unfold cU
   rw[za (qL hk),zc (zo hk),hx,z6 (gN F x hF)]
   by_cases q:x∈F
   ·right
    rw[decide_eq_true q,za (by rfl),z7,if_pos ⟨x,List.mem_cons_self,q⟩]
   ·left
    refine⟨(),?_,trivial,?_⟩
    ·rw[decide_eq_false q,z8 (by rfl),z7,vr k _ hk (by omega)]
    ·have:(∃ y∈x::xs,y∈F)↔∃ y∈xs,y∈F:=by
      constructor
      ·rintro⟨y,hy,hf⟩
       rcases List.mem_cons.1 hy with rfl | hy
       ·exact absurd hf q
       ·exact⟨y,hy,hf⟩
      ·rintro⟨y,hy,hf⟩; exact⟨y,List.mem_cons_of_mem _ hy,hf⟩
     simp only[this]
  ·unfold cU
   rw[z8 (xi _),z7,if_neg (by simp)]
 unfold gV
 rw[z6 hN,z6 (key _ (by omega))]
 have R4:(∃ x∈dd [] (allE e),x∈F)↔oA e F=true:=by
  rw[OV]
  constructor
  ·rintro⟨x,hx,hf⟩
   rcases(EG _ _ _).1 hx with h | h
   ·cases h
   ·exact⟨x,h,hf⟩
  ·rintro⟨x,hx,hf⟩; exact⟨x,(EG _ _ _).2 (.inr hx),hf⟩
 by_cases h:oA e F=true
 ·rw[if_pos (R4.2 h),h]; rfl
 ·rw[if_neg (fun z=>h (R4.1 z)),Bool.not_eq_true _ |>.mp h]; rfl
theorem p7(e:Expr)(F:List zf)(hb:bkE e≤1000000)(hF:F.length≤1000000000):(dB e F).run=some (dh F e):=by
 unfold dB
 refine kS (fun x:Expr×List zf=>bkE x.1≤1000000∧x.2=F) (fun x=>bkE x.1) (fun x=>dh F x.1) (fun x hx g hg => ?_) (x:=(e,F)) ⟨hb,rfl⟩
 obtain⟨x,F'⟩:=x
 obtain⟨hx,rfl⟩:=hx
 dsimp only at hx
 have hk:=gq x
 have Ev:=iJ x.kids
 have loop:(sG (fun y0 y1=>g (y0,y1)) F' x 0).run=some (if rK F' x.kids=true then .inl ()else .inr false):=by
  refine T.jt (r:=kB (fun y0 y1=>g (y0,y1)) F' x) x.kids (zb .expr) (fun(_:Unit) i=>i) (fun _ _=>True) (fun l _=>(if rK F' l=true then .inl ()else .inr false:Unit⊕Bool)) (fun k _ y ys Jt hy hm hd hI => ?_) (fun _ _ => ?_) (b:=()) trivial
  ·have hm:=hO hm
   have hr:=hg (y,F') ⟨by dsimp only; omega,rfl⟩ (by dsimp only; omega)
   dsimp only at hr
   unfold kB
   rw[za (qL Jt),zc (zo Jt),hy,z6 hr]
   cases q:dh F' y with
   | true =>
    left
    refine⟨(),?_,trivial,?_⟩
    ·rw[z8 (by rfl),z7,vr k _ Jt (by omega)]
    ·show _=(if(dh F' y&&rK F' ys)=true then _ else _)
     rw[q,Bool.true_and]
   | false =>
    right
    rw[za (by rfl),z7]
    show _=some (Sum.inr (if(dh F' y&&rK F' ys)=true then _ else _))
    rw[q,Bool.false_and]; rfl
  ·unfold kB
   rw[z8 (xi _),z7]; rfl
 unfold cJ
 rw[z6 loop]
 cases x with | mk k n s kids =>
 show _=some (dh F' (.mk k n s kids))
 rw[show Expr.kids (.mk k n s kids)=kids from rfl,show Expr.kind (.mk k n s kids)=k from rfl]at *
 cases hl:rK F' kids with
 | false =>
  rw[if_neg (by simp)]
  show(T.ret false:T Bool).run=some (!Jk F' k kids&&rK F' kids)
  rw[hl,Bool.and_false]; rfl
 | true =>
  rw[if_pos rfl]
  have zbs:dh F' (.mk k n s kids) = !Jk F' k kids:=by
   show(!Jk F' k kids&&rK F' kids)=_
   rw[hl,Bool.and_true]
  rw[zbs,Sum.elim_inl]
  have other:(((kids.length:Int))==2)=false→Jk F' k kids=false:=fun h=>by
   unfold Jk
   split
   ·simp at h
   ·rfl
  cases h2:(((kids.length:Int))==2)with
  | false =>
   rw[other h2,Bool.and_false,Bool.and_false]; rfl
  | true =>
   match kids,h2,hk,hx with
   | [a,b],_,hk,hx =>
    have ha:bkE a≤1000000:=by simp only[bkE,bkEs]at hx; omega
    have Zm:bkE b≤1000000:=by simp only[bkE,bkEs]at hx; omega
    have ra:=Xw a F' ha hF
    have rb:=Xw b F' Zm hF
    show(.ite ((k==5)&&true) (.zd (zi 0 2)<|T.bind (gV a F') fun r1=>.ite (!r1) (.ret true) (.zd (zi 1 2)<|T.bind (gV b F') fun r2=>.ret (!r2)))
     (.ite ((k==6)&&true) (.zd (zi 1 2)<|T.bind (gV b F') fun r3=>.ret (!r3)) (.ret true)):T Bool).run=some (!((k==5&&(oA a F'&&oA b F'))||(k==6&&oA b F')))
    rw[Bool.and_true,Bool.and_true]
    by_cases h5:k=5
    ·subst h5
     rw[za (by rfl),zc ⟨by omega,by omega⟩,z6 ra]
     cases oA a F' with
     | false=>rfl
     | true =>
      rw[z8 (by rfl),zc ⟨by omega,by omega⟩,z6 rb,z7]
      cases oA b F'<;>rfl
    ·have k5:(k==5)=false:=by simpa using h5
     rw[k5,zr]
     by_cases h6:k=6
     ·subst h6
      rw[za (by rfl),zc ⟨by omega,by omega⟩,z6 rb,z7]
      cases oA b F'<;>rfl
     ·have k6:(k==6)=false:=by simpa using h6
      rw[k6]; rfl
theorem pW(e:Expr)(hb:bkE e≤1000000000):(nL e).run=some ((wu e:Nat):Int):=by
 unfold nL
 refine kS (fun x:Expr=>bkE x≤1000000000) (fun x=>bkE x) (fun x=>((wu x:Nat):Int)) (fun x hx g hg => ?_) (x:=e) hb
 have hk:=gq x
 have Ev:=iJ x.kids
 have ndb:∀ (l:List Expr),vZ l≤bkEs l:=by
  have both:∀ n,(∀ e:Expr,bkE e≤n→wu e≤bkE e):=by
   intro n
   induction n using Nat.strongRecOn with
   | _ n ih =>
    intro e he
    cases e with | mk k m s l =>
    have hl:∀ l':List Expr,bkEs l'<n→vZ l'≤bkEs l':=by
     intro l'
     induction l' with
     | nil=>intro _; exact Nat.le_refl _
     | cons y r ihr =>
      intro h
      unfold bkEs at h ⊢
      unfold vZ
      have h1:=ih (bkE y) (by omega) y (Nat.le_refl _)
      have h2:=ihr (by omega)
      omega
    have h3:bkEs l<bkE (.mk k m s l):=gq (.mk k m s l)
    have:=hl l (by omega)
    unfold wu
    omega
  intro l
  induction l with
  | nil=>exact Nat.le_refl _
  | cons y r ihr =>
   unfold vZ bkEs
   have:=both (bkE y) y (Nat.le_refl _)
   omega
 have loop:(Z7 (fun y0=>g y0) x (1,0)).run=some ((1+vZ x.kids:Nat):Int):=by
  have key:=mW (r:=yp (fun y0=>g y0) x) x.kids (zb .expr) (fun(b:Nat) i=>(((b:Nat):Int),i)) (fun b r=>b+vZ r≤1+vZ x.kids∧∀ y∈r,y∈x.kids) (fun r b=>((b+vZ r:Nat):Int)) ?_ ?_ (b:=1) ⟨Nat.le_refl _,fun y hy=>hy⟩
  ·exact key
  ·rintro b y ys i h0 hi hy ⟨h1,h2⟩
   have hm:=hO (h2 y List.mem_cons_self)
   have hr:=hg y (by omega) (by omega)
   have Fv:=ndb x.kids
   have e1:vZ (y::ys)=wu y+vZ ys:=rfl
   rw[e1]at h1
   refine .inl ⟨b+wu y,?_,⟨by omega,fun z hz=>h2 z (List.mem_cons_of_mem _ hz)⟩,by rw[e1,Nat.add_assoc]⟩
   unfold yp
   dsimp only
   rw[za (decide_eq_true hi),zc ⟨h0,hi⟩,hy,z6 hr,z7,zN (x:=i+1) (by omega) (by omega),zN (by omega) (by omega)]
   rfl
  ·rintro b _
   unfold yp
   dsimp only
   rw[z8 (xi _),z7]; rfl
 unfold eF
 rw[z6 loop,z7]
 cases x with | mk k n s kids=>rfl
theorem Vh(e:Expr)(h:allOk e)(hb:bkE e≤1000000)(hn:wu e≤256):(yU e).run=some (vf 0 e):=by
 unfold yU
 have h1:(nj e 1).run=some (vf 0 e):=Is e 0 h (by omega) (by omega)
 rw[z6 h1]
 cases vf 0 e with
 | false=>rfl
 | true=>rw[zA,z6 (pW e (by omega)),z7,decide_eq_true (by omega)]
def qM(k:Int):Int:=if k=3∨k=4 then 1 else if k=5∨k=6 then 2 else if k=7 then 3 else 4
def Ci(k:Int):zf:=if k=3 then[32,43,32]else if k=4 then[32,45,32]else if k=5 then[32,42,32]else if k=6 then[32,47,32]else[]
def nE(b:Bool)(s:zf):zf:=if b=true then[40]++s++[41]else s
def QL(k:Int):List (Int×zf)→zf
 | [a]=>[45]++nE (decide (a.1<3)) a.2
 | [a,b]=>nE (decide (a.1<qM k)) a.2++Ci k++nE (decide (b.1<qM k+1)) b.2
 | _=>[]
mutual
def prE:Expr→zf
 | .mk k n s l=>if k=1 then(xP (norm n).1 (nv (norm n).2.1) (nv (norm n).2.2.1) 0 61).1 else if k=2 then s else QL k (prL l)
def prL:List Expr→List (Int×zf)
 | []=>[]
 | e::r=>(qM e.kind,prE e)::prL r
end
theorem bR(b:Bool)(s:zf):(nE b s).length≤s.length+2:=by unfold nE; split<;>simp<;>omega
theorem Ga(k:Int):(Ci k).length≤3:=by unfold Ci; (repeat' split)<;>simp
theorem MJ(n:Rat)(h:WA n):(xP (norm n).1 (nv (norm n).2.1) (nv (norm n).2.2.1) 0 61).1.length≤6000:=by
 have hn:=nO (k:=100) (by omega) h
 have hd:=UP n.1 (nv n.2.1) (nv n.2.2.1)
 have hd:nv (norm n).2.2.1≠0:=hd
 rcases hx:xP (norm n).1 (nv (norm n).2.1) (nv (norm n).2.2.1) 0 61 with⟨s,b⟩
 cases b with
 | true =>
  obtain⟨j,h1,h2,h3,rfl⟩:=YG _ _ _ hd 61 0 s hx
  have l1:=zT hn.1
  have l2:=hn.2.2.1
  have l3:=Xn j
  have l4:=xe (nv (norm n).2.1) (10 ^ j)
  have l5:=hJ (Nat.div_le_self (nv (norm n).2.1*10 ^ j) (nv (norm n).2.2.1))
  have l6:=iw (nv (norm n).2.1*10 ^ j / nv (norm n).2.2.1) 162 (by omega)
  have l7:(Lw (norm n).1).length≤1:=by unfold Lw; split<;>simp
  dsimp only
  rw[List.length_append]
  by_cases hj:j=0
  ·subst hj
   unfold Ok
   rw[if_pos rfl]
   omega
  ·obtain⟨w,p,e,_,_,_,hp,_,hw⟩:=O8 (pr (nv (norm n).2.1*10 ^ j / nv (norm n).2.2.1)) j hj (z2Z _).1
   rw[e,List.length_append,List.length_cons]
   omega
 | false =>
  have:∀ (f k:Nat) (s:zf),xP (norm n).1 (nv (norm n).2.1) (nv (norm n).2.2.1) k f=(s,false)→s=[]:=by
   intro f
   induction f with
   | zero=>intro k s h; unfold xP at h; cases h; rfl
   | succ f ih =>
    intro k s h
    unfold xP at h
    split at h
    ·cases h
    ·exact ih _ _ h
  rw[this 61 0 s hx]; simp
theorem X4{d:Nat}{k:Int}{n:Rat}{s:zf}{l:List Expr}(h:vf d (.mk k n s l)=true):((l.length:Int)=WO k)∧kU (d+1) l=true:=by
 have h:(decide (d<32)&&(cR (.mk k n s l)&&kU (d+1) l))=true:=h
 simp only[Bool.and_eq_true]at h
 obtain⟨_,h1,h2⟩:=h
 unfold cR at h1
 simp only[Bool.and_eq_true]at h1
 exact⟨eq_of_beq h1.1,h2⟩
theorem lz:∀ (m:Nat) (e:Expr) (d:Nat),wu e≤m→vf d e=true→allOk e→(prE e).length≤2000*szE e:=by
 intro m
 induction m with
 | zero=>intro e d hm; cases e; unfold wu at hm; omega
 | succ m ih =>
  intro e d hm ho ha
  cases e with | mk k n s l =>
  obtain⟨hk,hl⟩:=X4 ho
  obtain⟨hn,pL⟩:=ha
  have Fv:wu (.mk k n s l)=1+vZ l:=rfl
  have jk:szE (.mk k n s l)=3+s.length+8*n.2.1.length+8*n.2.2.1.length+szEs l:=rfl
  rw[Fv]at hm
  rw[jk]
  show(if k=1 then(xP (norm n).1 (nv (norm n).2.1) (nv (norm n).2.2.1) 0 61).1 else if k=2 then s else QL k (prL l)).length≤_
  by_cases h1:k=1
  ·rw[if_pos h1]; have:=MJ n hn; omega
  ·rw[if_neg h1]
   by_cases h2:k=2
   ·rw[if_pos h2]; omega
   ·rw[if_neg h2]
    match l,hl,pL,hm with
    | [],_,_,_=>show(QL k []).length≤_; unfold QL; simp
    | [a],hl,pL,hm =>
     have Cm:vf (d+1) a=true:=by
      have:(vf (d+1) a&&kU (d+1) [])=true:=hl
      simp only[Bool.and_eq_true]at this; exact this.1
     have:=ih a (d+1) (by have:vZ [a]=wu a+0:=rfl; omega) Cm pL.1
     have e1:szEs [a]=szE a+0:=rfl
     have hp:=bR (decide (qM a.kind<3)) (prE a)
     show([45]++nE (decide (qM a.kind<3)) (prE a)).length≤_
     rw[List.length_append,List.length_singleton,e1]; omega
    | [a,b],hl,pL,hm =>
     have Gr:vf (d+1) a=true∧vf (d+1) b=true:=by
      have:(vf (d+1) a&&(vf (d+1) b&&kU (d+1) []))=true:=hl
      simp only[Bool.and_eq_true]at this; exact⟨this.1,this.2.1⟩
     have e0:vZ [a,b]=wu a+(wu b+0):=rfl
     have h3:=ih a (d+1) (by omega) Gr.1 pL.1
     have h4:=ih b (d+1) (by omega) Gr.2 pL.2.1
     have e1:szEs [a,b]=szE a+(szE b+0):=rfl
     have hp:=bR (decide (qM a.kind<qM k)) (prE a)
     have hq:=bR (decide (qM b.kind<qM k+1)) (prE b)
     have hm':=Ga k
     show(nE (decide (qM a.kind<qM k)) (prE a)++Ci k++nE (decide (qM b.kind<qM k+1)) (prE b)).length≤_
     rw[List.length_append,List.length_append,e1]; omega
    | a::b::c::r,_,_,_=>show(QL k _).length≤_; unfold prL prL prL QL; simp
theorem Gd(e:Expr):(cu e).run=some (qM e.kind):=by
 unfold cu qM
 generalize e.kind=k
 by_cases h3:k=3
 ·subst h3; rfl
 by_cases h4:k=4
 ·subst h4; rfl
 by_cases h5:k=5
 ·subst h5; rfl
 by_cases h6:k=6
 ·subst h6; rfl
 by_cases h7:k=7
 ·subst h7; rfl
 ·simp[h3,h4,h5,h6,h7]
theorem z2e(k:Int):(rF k).run=some (qM k):=by
 unfold rF qM
 by_cases h3:k=3
 ·subst h3; rfl
 by_cases h4:k=4
 ·subst h4; rfl
 by_cases h5:k=5
 ·subst h5; rfl
 by_cases h6:k=6
 ·subst h6; rfl
 by_cases h7:k=7
 ·subst h7; rfl
 ·simp[h3,h4,h5,h6,h7]
theorem Q0(g:Expr→T zf)(e:Expr)(least:Int)(t:zf)(hg:(g e).run=some t)(hl:t.length≤1000000000000):(gI (fun y0=>g y0) e least).run=some (nE (decide (qM e.kind<least)) t):=by
 unfold gI nE
 rw[z6 (Gd e)]
 cases decide (qM e.kind<least)with
 | true=>rw[zA,z6 hg,zD _ (by simp; omega),zD _ (by simp[c6]; omega),z7,if_pos rfl]; rfl
 | false=>rw[zr,z6 hg,z7,if_neg (by simp)]
theorem Hr{k:Int}{l:List Expr}(hk:(l.length:Int)=WO k)(h1:k≠1)(h2:k≠2):(k=7∧∃ a,l=[a])∨((k=3∨k=4∨k=5∨k=6)∧∃ a b,l=[a,b]):=by
 unfold WO at hk
 rw[if_neg (by rintro(h | h); exact h1 h; exact h2 h)]at hk
 by_cases h7:k=7
 ·rw[if_pos h7]at hk
  match l,hk with
  | [a],_=>exact .inl ⟨h7,a,rfl⟩
  | [],hk=>simp at hk
  | _::_::_,hk=>simp at hk; omega
 ·rw[if_neg h7]at hk
  by_cases h:k=3∨k=4∨k=5∨k=6
  ·rw[if_pos h]at hk
   match l,hk with
   | [a,b],_=>exact .inr ⟨h,a,b,rfl⟩
   | [],hk=>simp at hk
   | [_],hk=>simp at hk
   | _::_::_::_,hk=>simp at hk; omega
  ·rw[if_neg h]at hk; omega
theorem NW(e:Expr)(d:Nat)(ho:vf d e=true)(ha:allOk e)(hs:szE e≤1000000):(nF e).run=some (prE e):=by
 unfold nF
 refine kS (fun x:Expr=>(∃ d,vf d x=true)∧allOk x∧szE x≤1000000) (fun x=>wu x) (fun x=>prE x) (fun x hx g hg => ?_) (x:=e) ⟨⟨d,ho⟩,ha,hs⟩
 obtain⟨⟨d,ho⟩,ha,hs⟩:=hx
 cases x with | mk k n s l =>
 obtain⟨hk,hl⟩:=X4 ho
 obtain⟨hn,pL⟩:=ha
 have Fv:wu (.mk k n s l)=1+vZ l:=rfl
 have jk:szE (.mk k n s l)=3+s.length+8*n.2.1.length+8*n.2.2.1.length+szEs l:=rfl
 have hE:=Zc n (xT hn (by omega))
 have z57:prE (.mk k n s l)=if k=1 then(xP (norm n).1 (nv (norm n).2.1) (nv (norm n).2.2.1) 0 61).1 else if k=2 then s else QL k (prL l):=rfl
 rw[z57]
 unfold eK
 rw[show Expr.kind (.mk k n s l)=k from rfl,show Expr.kids (.mk k n s l)=l from rfl,show Expr.num (.mk k n s l)=n from rfl,show Expr.name (.mk k n s l)=s from rfl]
 have R6:=Gd (.mk k n s l)
 rw[show Expr.kind (.mk k n s l)=k from rfl]at R6
 by_cases h1:k=1
 ·rw[if_pos h1]
  refine(z6 (a:=.inr (xP (norm n).1 (nv (norm n).2.1) (nv (norm n).2.2.1) 0 61).1) ?_ _).trans rfl
  rw[za (by simpa using h1),z6 hE,z7]
 have k1:(k==1)=false:=by simpa using h1
 by_cases h2:k=2
 ·rw[if_neg h1,if_pos h2]
  refine(z6 (a:=.inr s) ?_ _).trans rfl
  rw[z8 k1,za (by simpa using h2),z7]
 have k2:(k==2)=false:=by simpa using h2
 rw[if_neg h1,if_neg h2]
 rcases Hr hk h1 h2 with⟨h7,a,rfl⟩ | ⟨h36,a,b,rfl⟩
 ·have Cm:vf (d+1) a=true:=by
   have:(vf (d+1) a&&kU (d+1) [])=true:=hl
   simp only[Bool.and_eq_true]at this; exact this.1
  have e0:vZ [a]=wu a+0:=rfl
  have e1:szEs [a]=szE a+0:=rfl
  have hr:=hg a ⟨⟨_,Cm⟩,pL.1,by omega⟩ (by omega)
  have hlen:=lz (wu a) a (d+1) (Nat.le_refl _) Cm pL.1
  have hp:=Q0 g a 3 (prE a) hr (by omega)
  have QA:=bR (decide (qM a.kind<3)) (prE a)
  refine(z6 (a:=.inr (QL k (prL [a]))) ?_ _).trans rfl
  rw[z8 k1,z8 k2,za (by simpa using h7),zc ⟨by omega,by simp⟩,show nth [a] (0:Int) (zb .expr)=a from rfl,z6 hp,zD _ (by simp; omega),z7]
  rfl
 ·have Gr:vf (d+1) a=true∧vf (d+1) b=true:=by
   have:(vf (d+1) a&&(vf (d+1) b&&kU (d+1) []))=true:=hl
   simp only[Bool.and_eq_true]at this; exact⟨this.1,this.2.1⟩
  have e0:vZ [a,b]=wu a+(wu b+0):=rfl
  have e1:szEs [a,b]=szE a+(szE b+0):=rfl
  have ra:=hg a ⟨⟨_,Gr.1⟩,pL.1,by omega⟩ (by omega)
  have rb:=hg b ⟨⟨_,Gr.2⟩,pL.2.1,by omega⟩ (by omega)
  have la:=lz (wu a) a (d+1) (Nat.le_refl _) Gr.1 pL.1
  have lb:=lz (wu b) b (d+1) (Nat.le_refl _) Gr.2 pL.2.1
  have DH:zt (qM k+1)=qM k+1:=by
   have:qM k=1∨qM k=2∨qM k=3∨qM k=4:=by unfold qM; (repeat' split)<;>simp
   rw[zN (by omega) (by omega)]
  have pa:=Q0 g a (qM k) (prE a) ra (by omega)
  have pb:=Q0 g b (qM k+1) (prE b) rb (by omega)
  have qa:=bR (decide (qM a.kind<qM k)) (prE a)
  have qb:=bR (decide (qM b.kind<qM k+1)) (prE b)
  have hm:=Ga k
  have k7:(k==7)=false:=by rw[beq_eq_false_iff_ne]; omega
  refine(z6 (a:=.inl (Ci k)) ?_ _).trans ?_
  ·rw[z8 k1,z8 k2,z8 k7]
   rcases h36 with rfl | rfl | rfl | rfl<;>rfl
  ·rw[Sum.elim_inl,zc ⟨by omega,by simp⟩,z6 R6,show nth [a,b] (0:Int) (zb .expr)=a from rfl,z6 pa,zD _ (by omega),zc ⟨by omega,by simp⟩,z6 R6,DH,show nth [a,b] (1:Int) (zb .expr)=b from rfl,z6 pb,zD _ (by simp[c6]; omega),z7]
   rfl
theorem Th(e:Expr)(asks:Int)(d:Nat)(ho:vf d e=true)(ha:allOk e)(hs:szE e≤100000):(tJ e asks).run=some (nE (decide (qM e.kind<asks)) (prE e)):=by
 unfold tJ
 refine kS (fun x:Expr×Int=>(∃ d,vf d x.1=true)∧allOk x.1∧szE x.1≤100000) (fun x=>wu x.1) (fun x=>nE (decide (qM x.1.kind<x.2)) (prE x.1)) (fun x hx g hg => ?_) (x:=(e,asks)) ⟨⟨d,ho⟩,ha,hs⟩
 obtain⟨x,q⟩:=x
 obtain⟨⟨d,ho⟩,ha,hs⟩:=hx
 dsimp only at ho ha hs
 have zia:=lz (wu x) x d (Nat.le_refl _) ho ha
 cases x with | mk k n s l =>
 obtain⟨hk,hl⟩:=X4 ho
 obtain⟨hn,pL⟩:=ha
 have Fv:wu (.mk k n s l)=1+vZ l:=rfl
 have jk:szE (.mk k n s l)=3+s.length+8*n.2.1.length+8*n.2.2.1.length+szEs l:=rfl
 have hE:=rL n (xT hn (by omega))
 have z57:prE (.mk k n s l)=if k=1 then(xP (norm n).1 (nv (norm n).2.1) (nv (norm n).2.2.1) 0 61).1 else if k=2 then s else QL k (prL l):=rfl
 unfold lG
 rw[show Expr.kind (.mk k n s l)=k from rfl,show Expr.kids (.mk k n s l)=l from rfl,show Expr.num (.mk k n s l)=n from rfl,show Expr.name (.mk k n s l)=s from rfl]
 have fin:∀ t:T zf,t.run=some (prE (.mk k n s l))→(T.bind t fun s1=>T.bind (rF k) fun Nv=>.ite (decide (Nv<q))
   (.zd (((List.length ([40]:zf))+(List.length s1))≤(4611686018427387904:Nat))<|.zd (((List.length (cat ([40]:zf) s1))+(List.length ([41]:zf)))≤(4611686018427387904:Nat))<|.ret (cat (cat ([40]:zf) s1) ([41]:zf))) (.ret s1):T zf).run=some (nE (decide (qM k<q)) (prE (.mk k n s l))):=by
  intro t ht
  rw[z6 ht,z6 (z2e k)]
  cases decide (qM k<q)with
  | true=>rw[zA,zD _ (by simp; omega),zD _ (by simp[c6]; omega),z7]; rfl
  | false=>rw[zr,z7]; rfl
 refine fin _ ?_
 rw[z57]
 by_cases h1:k=1
 ·rw[if_pos h1,za (by simpa using h1),z6 hE,z7]
 have k1:(k==1)=false:=by simpa using h1
 by_cases h2:k=2
 ·rw[if_neg h1,if_pos h2,z8 k1,za (by simpa using h2),z7]
 have k2:(k==2)=false:=by simpa using h2
 rw[if_neg h1,if_neg h2]
 rcases Hr hk h1 h2 with⟨h7,a,rfl⟩ | ⟨h36,a,b,rfl⟩
 ·have Cm:vf (d+1) a=true:=by
   have:(vf (d+1) a&&kU (d+1) [])=true:=hl
   simp only[Bool.and_eq_true]at this; exact this.1
  have e0:vZ [a]=wu a+0:=rfl
  have e1:szEs [a]=szE a+0:=rfl
  have hr:=hg (a,3) ⟨⟨_,Cm⟩,pL.1,by dsimp only; omega⟩ (by dsimp only; omega)
  have hlen:=lz (wu a) a (d+1) (Nat.le_refl _) Cm pL.1
  have QA:=bR (decide (qM a.kind<3)) (prE a)
  dsimp only at hr
  rw[z8 k1,z8 k2,za (by simpa using h7),zc ⟨by omega,by simp⟩,show nth [a] (0:Int) (zb .expr)=a from rfl,z6 hr,zD _ (by simp; omega),z7]
  rfl
 ·have Gr:vf (d+1) a=true∧vf (d+1) b=true:=by
   have:(vf (d+1) a&&(vf (d+1) b&&kU (d+1) []))=true:=hl
   simp only[Bool.and_eq_true]at this; exact⟨this.1,this.2.1⟩
  have e0:vZ [a,b]=wu a+(wu b+0):=rfl
  have e1:szEs [a,b]=szE a+(szE b+0):=rfl
  have ra:∀ q:Int,(g (a,q)).run=some (nE (decide (qM a.kind<q)) (prE a)):=fun q=>hg (a,q) ⟨⟨_,Gr.1⟩,pL.1,by dsimp only; omega⟩ (by dsimp only; omega)
  have rb:∀ q:Int,(g (b,q)).run=some (nE (decide (qM b.kind<q)) (prE b)):=fun q=>hg (b,q) ⟨⟨_,Gr.2⟩,pL.2.1,by dsimp only; omega⟩ (by dsimp only; omega)
  have la:=lz (wu a) a (d+1) (Nat.le_refl _) Gr.1 pL.1
  have lb:=lz (wu b) b (d+1) (Nat.le_refl _) Gr.2 pL.2.1
  have qa:∀ q:Int,(nE (decide (qM a.kind<q)) (prE a)).length≤1000000000:=fun q=>by have:=bR (decide (qM a.kind<q)) (prE a); omega
  have qb:∀ q:Int,(nE (decide (qM b.kind<q)) (prE b)).length≤1000000000:=fun q=>by have:=bR (decide (qM b.kind<q)) (prE b); omega
  have k7:(k==7)=false:=by rw[beq_eq_false_iff_ne]; omega
  have two:∀ (m:zf) (p q:Int),m.length≤3→(.zd (zi (0:Int) (List.length [a,b]))<|T.bind (g (nth [a,b] (0:Int) (zb .expr),p)) fun r2=>.zd (((List.length r2)+(List.length m))≤(4611686018427387904:Nat))<|.zd (zi (1:Int) (List.length [a,b])) <|
    T.bind (g (nth [a,b] (1:Int) (zb .expr),q)) fun r3=>.zd (((List.length (cat r2 m))+(List.length r3))≤(4611686018427387904:Nat))<|.ret (cat (cat r2 m) r3):T zf).run=some (nE (decide (qM a.kind<p)) (prE a)++m++nE (decide (qM b.kind<q)) (prE b)):=by
   intro m p q hm
   have h3:=qa p
   have h4:=qb q
   rw[zc ⟨by omega,by simp⟩,show nth [a,b] (0:Int) (zb .expr)=a from rfl,z6 (ra p),zD _ (by omega),zc ⟨by omega,by simp⟩,show nth [a,b] (1:Int) (zb .expr)=b from rfl,z6 (rb q),zD _ (by simp[c6]; omega),z7]
   rfl
  rw[z8 k1,z8 k2,z8 k7]
  rcases h36 with rfl | rfl | rfl | rfl
  ·rw[za (by rfl)]; exact two [32,43,32] 1 2 (by simp)
  ·rw[z8 (by rfl),za (by rfl)]; exact two [32,45,32] 1 2 (by simp)
  ·rw[z8 (by rfl),z8 (by rfl),za (by rfl)]; exact two [32,42,32] 2 3 (by simp)
  ·rw[z8 (by rfl),z8 (by rfl),z8 (by rfl),za (by rfl)]; exact two [32,47,32] 2 3 (by simp)
theorem MO(e:Expr)(ho:vf 0 e=true)(ha:allOk e)(hs:szE e≤700):(cj e).run=some (prE e):=by
 have hn:=GR e
 unfold cj
 rw[z6 (Tt e ha (by omega)),ho,z8 (by rfl),z6 (NW e 0 ho ha (by omega)),z7]
theorem Ks(e:Expr)(ho:vf 0 e=true)(ha:allOk e)(hs:szE e≤700)(hb:bkE e≤1000000):(jM e).run=some (prE e):=by
 have hn:=GR e
 unfold jM
 rw[z6 (Vh e ha hb (by omega)),ho,z8 (by rfl),z6 (Th e 1 0 ho ha (by omega)),z7]
 have:decide (qM e.kind<1)=false:=by
  refine decide_eq_false ?_
  unfold qM
  (repeat' split)<;>omega
 rw[this]; rfl
inductive PR where
 | no
 | er (k:Int) (bad r:zf) (d:Nat) (l:Bool)
 | ok (e:Expr) (r:zf) (l:Bool)
def PR.bind:PR→(Expr→zf→Bool→PR)→PR
 | .no,_=>.no
 | .er k b r d l,_=>.er k b r d l
 | .ok e r l,f=>f e r l
def z3t(k:Int)(l:List Expr):Expr:=.mk k eC [] l
def z05(t:zf):Rat:=match z1Z t with | some (n,d)=>kO (List.isPrefixOf [45] t) n d | none=>eC
mutual
def iQ(deep:Nat)(left:Int):Expr→Bool×Int
 | .mk k n s l=>if left-1<0∨(decide (deep<32)&&cR (.mk k n s l))=false then(false,left-1)else gy (deep+1) (left-1) l
def gy(deep:Nat)(left:Int):List Expr→Bool×Int
 | []=>(true,left)
 | e::r=>if(iQ deep left e).1=true then gy deep (iQ deep left e).2 r else(false,(iQ deep left e).2)
end
mutual
theorem Hb:∀ (e:Expr) (d:Nat) (left:Int),0≤left→(iQ d left e).1=(vf d e&&decide ((wu e:Int)≤left))∧((iQ d left e).1=true→(iQ d left e).2=left-wu e)∧(iQ d left e).2≤left ∧ -1≤(iQ d left e).2
 | .mk k n s l,d,left,h=>by
  have e1:vf d (.mk k n s l)=((decide (d<32)&&cR (.mk k n s l))&&kU (d+1) l):=by unfold vf; rw[Bool.and_assoc]
  have e2:wu (.mk k n s l)=1+vZ l:=rfl
  unfold iQ
  rw[e1,e2]
  by_cases c:left-1<0
  ·rw[if_pos (.inl c)]
   refine⟨?_,fun h=>by simp at h,by omega,by dsimp only; omega⟩
   dsimp only
   rw[show decide (((1+vZ l:Nat):Int)≤left)=false from decide_eq_false (by omega),Bool.and_false]
  ·cases q:(decide (d<32)&&cR (.mk k n s l))with
   | false=>rw[if_pos (.inr rfl)]; exact⟨rfl,fun h=>by simp at h,by dsimp only; omega,by dsimp only; omega⟩
   | true =>
    rw[if_neg (by rintro(h | h); exact c h; simp at h),Bool.true_and]
    obtain⟨h1,h2,h3,h4⟩:=Cu l (d+1) (left-1) (by omega)
    refine⟨?_,fun h=>by rw[h2 h]; omega,by omega,by omega⟩
    rw[h1]
    congr 1
    exact decide_eq_decide.2 (by omega)
theorem Cu:∀ (l:List Expr) (d:Nat) (left:Int),0≤left→(gy d left l).1=(kU d l&&decide ((vZ l:Int)≤left))∧((gy d left l).1=true→(gy d left l).2=left-vZ l)∧(gy d left l).2≤left ∧ -1≤(gy d left l).2
 | [],d,left,h=>by
  refine⟨?_,fun _ => ?_,Int.le_refl _,?_⟩
  ·show true=(true&&decide (((0:Nat):Int)≤left)); simp; omega
  ·show left=left-((0:Nat):Int); omega
  ·show -1≤left; omega
 | e::r,d,left,h=>by
  have e1:kU d (e::r)=(vf d e&&kU d r):=rfl
  have e2:vZ (e::r)=wu e+vZ r:=rfl
  obtain⟨h1,h2,h3,h4⟩:=Hb e d left h
  unfold gy
  rw[e1,e2]
  cases q:(iQ d left e).1 with
  | false =>
   rw[if_neg (by simp)]
   refine⟨?_,fun h=>by simp at h,h3,h4⟩
   dsimp only
   rw[q]at h1
   cases ho:vf d e with
   | false=>rfl
   | true =>
    rw[ho,Bool.true_and]at h1
    have:=of_decide_eq_false h1.symm
    rw[show decide (((wu e+vZ r:Nat):Int)≤left)=false from decide_eq_false (by omega),Bool.and_false]
  | true =>
   rw[if_pos rfl]
   have hq:=h2 q
   rw[q]at h1
   have h1:=h1.symm
   rw[Bool.and_eq_true,decide_eq_true_eq]at h1
   obtain⟨g1,g2,g3,g4⟩:=Cu r d (iQ d left e).2 (by omega)
   refine⟨?_,fun h=>by rw[g2 h]; omega,by omega,by omega⟩
   rw[g1,h1.1,Bool.true_and]
   congr 1
   exact decide_eq_decide.2 (by omega)
end
theorem E4(e:Expr)(deep:Nat)(left:Int)(h:allOk e)(hl:wu e≤1000000)(hl0:0≤left)(iM:left≤100000)(hd:deep≤32):(jV e (deep:Int) left).run=some (iQ deep left e):=by
 unfold jV
 refine kS (fun x:Expr×Int×Int=>allOk x.1∧0≤x.2.1∧x.2.1≤32∧wu x.1≤1000000∧0≤x.2.2∧x.2.2≤100000) (fun x=>wu x.1) (fun x=>iQ x.2.1.toNat x.2.2 x.1) (fun x hx g hg => ?_) (x:=(e,(deep:Int),left)) ⟨h,by dsimp only; omega,by dsimp only; omega,by dsimp only; omega,by dsimp only; omega,by dsimp only; omega⟩
 obtain⟨e,d,L⟩:=x
 obtain⟨ha,Fg,Np,hn,zes,hlf⟩:=hx
 dsimp only at ha Fg Np hn zes hlf
 obtain⟨D,rfl⟩:∃ D:Nat,d=(D:Int):=⟨d.toNat,by omega⟩
 cases e with | mk k n s kids =>
 obtain⟨Ez,Ds⟩:=ha
 have Fv:wu (.mk k n s kids)=1+vZ kids:=by unfold wu; rfl
 rw[Fv]at hn
 have ew:zt (L-1)=L-1:=zN (by omega) (by omega)
 have Tf:=Jm (.mk k n s kids) Ez
 simp only[Int.toNat_natCast]
 unfold gR
 rw[ew]
 have head:((.ite (decide ((L-1)<(0:Int))) (.ret (true,L-1)) (.ite (decide ((32:Int)≤(D:Int))) (.ret (true,L-1)) (T.bind (gn (.mk k n s kids)) fun r=>.ret ((!r),L-1)))):T (Bool×Int)).run =
   some (decide (L-1<0∨(decide (D<32)&&cR (.mk k n s kids))=false),L-1):=by
  by_cases c0:L-1<0
  ·rw[za (decide_eq_true c0),z7,decide_eq_true (.inl c0)]
  ·rw[z8 (decide_eq_false c0)]
   by_cases c:D<32
   ·rw[z8 (decide_eq_false (by omega)),z6 Tf,z7,decide_eq_true c,Bool.true_and]
    cases cR (.mk k n s kids)<;>simp[c0]
   ·rw[za (decide_eq_true (by omega)),z7,decide_eq_false c,Bool.false_and]
    simp
 rw[z6 head]
 dsimp only
 unfold iQ
 by_cases q:L-1<0∨(decide (D<32)&&cR (.mk k n s kids))=false
 ·rw[za (decide_eq_true q),z7,if_pos q]
 ·rw[z8 (decide_eq_false q),if_neg q]
  have q1:¬ L-1<0:=fun h=>q (.inl h)
  have hD:D<32:=by
   by_cases c:D<32
   ·exact c
   ·exact absurd (.inr (by rw[decide_eq_false c]; rfl)) q
  have ed:zt ((D:Int)+1)=((D+1:Nat):Int):=by rw[zN (by omega) (by omega)]; omega
  have loop:∃ z,(q7 (fun y0 y1 y2=>g (y0,y1,y2)) kids (kids.length:Int) (((D:Int),()),((0:Int),L-1))).run=some z ∧
    (((gy (D+1) (L-1) kids).1=true∧z=.inl (gy (D+1) (L-1) kids).2)∨((gy (D+1) (L-1) kids).1=false∧∃ i:Int,0≤i∧z=.inr (i,(gy (D+1) (L-1) kids).2))):=by
   refine T.xg (r:=zQ (fun y0 y1 y2=>g (y0,y1,y2)) kids (kids.length:Int)) (fun st:(Int×Unit)×Int×Int=>∃ (j:Nat) (B:Int),st=(((D:Int),()),(j:Int),B)∧j≤kids.length∧0≤B∧B≤100000 ∧
    gy (D+1) B (kids.drop j)=gy (D+1) (L-1) kids) (fun st=>kids.length-st.2.1.toNat) _ (fun st xN => ?_) ⟨0,L-1,rfl,by omega,by omega,by omega,by rw[List.drop_zero]⟩
   obtain⟨j,B,rfl,hj,hB0,hB,HF⟩:=xN
   by_cases c:j<kids.length
   ·have hdr:kids.drop j=kids[j]::kids.drop (j+1):=List.drop_eq_getElem_cons c
    rw[hdr]at HF
    rw[show gy (D+1) B (kids[j]::kids.drop (j+1))=if(iQ (D+1) B kids[j]).1=true then gy (D+1) (iQ (D+1) B kids[j]).2 (kids.drop (j+1))else(false,(iQ (D+1) B kids[j]).2)from rfl]at HF
    have VP:=ZX Ds _ (List.getElem_mem c)
    have RZ:=Hb kids[j] (D+1) B hB0
    have EF:wu kids[j]<1+vZ kids:=by have:=X7 (List.getElem_mem c); omega
    have Hd:=hg (kids[j],((D+1:Nat):Int),B) ⟨VP,by dsimp only; omega,by dsimp only; omega,by dsimp only; omega,by dsimp only; omega,by dsimp only; omega⟩ (by dsimp only; rw[Fv]; exact EF)
    dsimp only at Hd
    simp only[Int.toNat_natCast]at Hd
    have hf:(jr (fun y0 y1 y2=>g (y0,y1,y2)) kids[j] (D:Int) B).run=some (!(iQ (D+1) B kids[j]).1,(iQ (D+1) B kids[j]).2):=by
     unfold jr
     rw[ed,z6 Hd]; rfl
    unfold zQ
    dsimp only
    rw[za (qL c),zc (zo c),qP c,z6 hf]
    dsimp only
    cases hk:(iQ (D+1) B kids[j]).1 with
    | true =>
     left
     rw[hk,if_pos rfl]at HF
     rw[z8 (by rfl),z7]
     have hlen:=QW kids
     rw[vr j _ c (by omega)]
     have hb:=RZ.1
     rw[hk]at hb
     have hb:=hb.symm
     rw[Bool.and_eq_true,decide_eq_true_eq]at hb
     have h2:=RZ.2.1 hk
     refine⟨_,rfl,⟨j+1,(iQ (D+1) B kids[j]).2,rfl,c,by omega,by omega,HF⟩,?_⟩
     simp only[Int.toNat_natCast]
     omega
    | false =>
     right
     rw[hk,if_neg (by simp)]at HF
     rw[za (by rfl),z7]
     exact⟨_,rfl,.inr ⟨by rw[← HF],(j:Int),by omega,by rw[← HF]⟩⟩
   ·right
    have hj2:j=kids.length:=by omega
    subst hj2
    rw[List.drop_length]at HF
    unfold zQ
    dsimp only
    rw[z8 (xi _),z7]
    exact⟨_,rfl,.inl ⟨by rw[← HF]; rfl,by rw[← HF]; rfl⟩⟩
  obtain⟨z,hz,hc⟩:=loop
  have hcf:(qj (fun y0 y1 y2=>g (y0,y1,y2)) kids ((D:Int),()) (L-1)).run=some (!(gy (D+1) (L-1) kids).1,(gy (D+1) (L-1) kids).2):=by
   unfold qj qU
   rcases hc with⟨ho,rfl⟩ | ⟨ho,i,hi,rfl⟩
   ·have:((T.bind (q7 (fun y0 y1 y2=>g (y0,y1,y2)) kids (kids.length:Int) (((D:Int),()),((0:Int),L-1)))<|Sum.elim (fun v2=>.ret ((-1:Int),v2)) (fun(x2,v3)=>.ret (x2,v3))):T (Int×Int)).run=some (-1,(gy (D+1) (L-1) kids).2):=by
     rw[z6 hz]; rfl
    rw[z6 this,ho]; rfl
   ·have:((T.bind (q7 (fun y0 y1 y2=>g (y0,y1,y2)) kids (kids.length:Int) (((D:Int),()),((0:Int),L-1)))<|Sum.elim (fun v2=>.ret ((-1:Int),v2)) (fun(x2,v3)=>.ret (x2,v3))):T (Int×Int)).run=some (i,(gy (D+1) (L-1) kids).2):=by
     rw[z6 hz]; rfl
    rw[z6 this,ho,z7,decide_eq_true hi]; rfl
  rw[show Expr.kids (.mk k n s kids)=kids from rfl,z6 hcf]
  dsimp only
  rw[z7,Bool.not_not]
def isE(e:Expr):Bool:=vf 0 e&&decide (wu e≤256)
theorem MS(e:Expr)(h:allOk e)(hn:wu e≤1000000):(uA e).run=some (isE e):=by
 unfold uA isE
 have:=E4 e 0 256 h hn (by omega) (by omega) (by omega)
 have this:(jV e 0 256).run=some (iQ 0 256 e):=this
 rw[z6 this,z7,(Hb e 0 256 (by omega)).1]
 congr 2
 exact decide_eq_decide.2 (by omega)
theorem UF(e:Expr)(h:allOk e)(hb:bkE e≤1000000000)(hn:wu e≤100000):(yU e).run=some (isE e):=by
 unfold yU isE
 have h1:(nj e 1).run=some (vf 0 e):=Is e 0 h (by omega) (by omega)
 rw[z6 h1]
 cases vf 0 e with
 | false=>rfl
 | true =>
  rw[zA,z6 (pW e hb),z7]
  congr 1
  rw[Bool.true_and]
  exact decide_eq_decide.2 (by omega)
theorem Vs(a b:Rat)(ha:xd 10000000 a)(hb:xd 10000000 b):(eQ a b).run=some (xn (val a*val b)):=by
 unfold eQ
 rw[z6 (j8 a (xT ha (by omega))),z6 (j8 b (xT hb (by omega))),xw,xw]
 have la:=uM (by omega) ha
 have lb:=uM (by omega) hb
 rw[IL]
 generalize val a=p at *
 generalize val b=q at *
 simp only[oa,jG,eH]
 have l1:=wV p; have l2:=wj p; have l3:=wV q; have l4:=wj q
 have m1:=xe p.num.natAbs q.num.natAbs
 have m2:=xe p.den q.den
 rw[z6 (dn _ _ (by omega) (by omega)),z6 (dn _ _ (by omega) (by omega)),z6 (oT _ _ _ (by omega) (by omega)),z7,dX]
 rfl
theorem Hg(a b:Rat)(ha:xd 10000000 a)(hb:xd 10000000 b):(dy a b).run=some (xn (val a*val b)):=by
 unfold dy
 rw[z6 (xO a (xT ha (by omega))),z6 (xO b (xT hb (by omega))),xw,xw]
 have la:=uM (by omega) ha
 have lb:=uM (by omega) hb
 rw[IL]
 generalize val a=p at *
 generalize val b=q at *
 simp only[oa,jG,eH]
 have l1:=wV p; have l2:=wj p; have l3:=wV q; have l4:=wj q
 have m1:=xe p.num.natAbs q.num.natAbs
 have m2:=xe p.den q.den
 rw[z6 (uX _ _ (by omega) (by omega)),z6 (uX _ _ (by omega) (by omega)),z6 (cZ _ _ _ (by omega) (by omega)),z7,dX]
 rfl
theorem XN(q:Q):(((zH q.num.natAbs).length:Int)==0)=decide (q=0):=by
 rw[db]
 refine decide_eq_decide.2 ⟨fun h=>Rat.num_eq_zero.1 (Int.natAbs_eq_zero.1 h),fun h=>by rw[h]; rfl⟩
theorem Hi(a:Rat)(ha:xd 10000000 a):(dc a).run=some (decide (val a=0)):=by
 unfold dc
 rw[z6 (j8 a (xT ha (by omega))),xw,z7,jG,XN]
theorem Yg(a:Rat)(ha:xd 10000000 a):(mG a).run=some (decide (val a=0)):=by
 unfold mG
 rw[z6 (xO a (xT ha (by omega))),xw,z7,jG,XN]
theorem z0D(q:Q)(h:q≠0):val ((xn q).1,((xn q).2.2.1,((xn q).2.1,())))=1 / q:=by
 rw[z4a 1 q h]
 unfold val
 rw[oa,jG,eH]
 simp
theorem CK(a b:Rat)(ha:xd 10000000 a)(hb:xd 10000000 b):(Xa a b).run=some (if val b=0 then(xn 0,false)else(xn (val a / val b),true)):=by
 have nb:=nO (k:=10000000) (by omega) hb
 rw[xw]at nb
 unfold Xa
 rw[z6 (j8 b (xT hb (by omega))),xw,jG,XN]
 by_cases h:val b=0
 ·rw[if_pos h,za (decide_eq_true h),z6 (dr 0 ⟨by omega,by omega⟩),z7]
  rfl
 ·have hm:=Vs a ((xn (val b)).1,((xn (val b)).2.2.1,((xn (val b)).2.1,()))) ha ⟨nb.2.1,nb.1,nb.2.2.2,nb.2.2.1⟩
  rw[z0D _ h]at hm
  rw[jG]at hm
  rw[if_neg h,z8 (decide_eq_false h),z6 hm,z7]
  congr 3
  rw[Rat.div_def,Rat.div_def]
  grind
theorem GQ(a b:Rat)(ha:xd 10000000 a)(hb:xd 10000000 b):∃ z,(iI a b).run=some (if val b=0 then z else xn (val a / val b),decide (val b≠0)):=by
 by_cases h:val b=0
 ·unfold iI
  rw[z6 (xO a (xT ha (by omega))),z6 (xO b (xT hb (by omega))),xw,xw,jG,XN,za (decide_eq_true h)]
  have hi:=xO eC (xT T4 (by omega))
  have hi:(xc (false,(([]:List Int),(([]:List Int),())))).run=_:=hi
  refine⟨norm eC,?_⟩
  rw[if_pos h,show decide (val b≠0)=false by simp[h]]
  rw[z6 hi,z7]
 ·refine⟨xn 0,?_⟩
  rw[Hf a b ha hb h,if_neg h,show decide (val b≠0)=true by simp[h]]
abbrev AC:=List (Int×Q)×Q
def qt(t:Int×Q):Term:=(t.1,(xn t.2,()))
def xh(s:Int)(c:AC):wC:=(s,(c.1.map qt,(xn c.2,())))
def ug(v:Int)(q:Q):List (Int×Q):=if q=0 then[]else[(v,q)]
def XB(vd:Q):List (Int×Q)→List (Int×Q)
 | []=>[]
 | t::r=>ug t.1 (t.2*vd)++XB vd r
def H5(vd:Q)(c:AC):AC:=(XB vd c.1,c.2*vd)
def mn:Nat→List (Int×Q)→List (Int×Q)→List (Int×Q)
 | 0,_,_=>[]
 | n+1,[],[]=>[]
 | n+1,t::r,[]=>ug t.1 t.2++mn n r []
 | n+1,[],u::m=>ug u.1 u.2++mn n [] m
 | n+1,t::r,u::m=>if t.1<u.1 then ug t.1 t.2++mn n r (u::m)else if u.1<t.1 then ug u.1 u.2++mn n (t::r) m else ug t.1 (t.2+u.2)++mn n r m
def adC(a b:AC):AC:=(mn (a.1.length+b.1.length) a.1 b.1,a.2+b.2)
def UO(k:Nat)(c:AC):Prop:=xz c.2≤k∧∀ t∈c.1,xz t.2≤k
theorem Gi(p q:Q)(hp:xz p≤10000000)(hq:xz q≤10000000):(eQ (xn p) (xn q)).run=some (xn (p*q)):=by
 have:=Vs (xn p) (xn q) (xa hp) (xa hq)
 rwa [vI,vI]at this
theorem Jq(p q:Q)(hp:xz p≤10000000)(hq:xz q≤10000000):(dy (xn p) (xn q)).run=some (xn (p*q)):=by
 have:=Hg (xn p) (xn q) (xa hp) (xa hq)
 rwa [vI,vI]at this
theorem YQ(p q:Q)(hp:xz p≤10000000)(hq:xz q≤10000000):(lQ (xn p) (xn q)).run=some (xn (p+q)):=by
 have:=D3 (xn p) (xn q) (xa hp) (xa hq)
 rwa [vI,vI]at this
theorem Jn(p q:Q)(hp:xz p≤10000000)(hq:xz q≤10000000):(dx (xn p) (xn q)).run=some (xn (p+q)):=by
 have:=GF (xn p) (xn q) (xa hp) (xa hq)
 rwa [vI,vI]at this
theorem KA(p:Q)(hp:xz p≤10000000):(dc (xn p)).run=some (decide (p=0)):=by
 have:=Hi (xn p) (xa hp)
 rwa [vI]at this
theorem Br(p:Q)(hp:xz p≤10000000):(mG (xn p)).run=some (decide (p=0)):=by
 have:=Yg (xn p) (xa hp)
 rwa [vI]at this
theorem ZG(p:Q)(hp:xz p≤10000000):(xR (xn p)).run=some (xn p):=by
 have:=j8 (xn p) (xT (xa hp) (by omega))
 rwa [xw,vI]at this
theorem CH(p:Q)(hp:xz p≤10000000):(xc (xn p)).run=some (xn p):=by
 have:=xO (xn p) (xT (xa hp) (by omega))
 rwa [xw,vI]at this
theorem cG(v:Int)(q:Q):(ug v q).length≤1:=by unfold ug; split<;>simp
theorem bL(b:Q):∀ l:List (Int×Q),(XB b l).length≤l.length
 | []=>Nat.le_refl _
 | t::r=>by
  show(ug t.1 (t.2*b)++XB b r).length≤r.length+1
  rw[List.length_append]
  have:=cG t.1 (t.2*b)
  have:=bL b r
  omega
theorem z18(vd:Q)(hb:xz vd≤1000000)(s:Int)(k0:Rat)(l:List (Int×Q))(hl:l.length≤1000000)(hq:∀ t∈l,xz t.2≤1000000) :
  ∃ v,(eZ (xn vd) (l.map qt) (l.length:Int) ((0:Int),(((0:Int),(false,(([]:List Int),(([]:List Int),())))),((s,(k0.1,(k0.2.1,(k0.2.2.1,())))),(([]:List Term),([]:List Term)))))).run=some (v,((s,k0),(([]:List Term),(XB vd l).map qt))):=by
 have key:∀ (m k:Nat) (acc:List Term) (v:Int×Rat),k+m=l.length→acc.length≤k→∃ v',(eZ (xn vd) (l.map qt) (l.length:Int) ((k:Int),(v,((s,k0),(([]:List Term),acc))))).run=some (v',((s,k0),(([]:List Term),acc++(XB vd (l.drop k)).map qt))):=by
  intro m
  induction m with
  | zero =>
   intro k acc v hk ha
   have:k=l.length:=by omega
   subst this
   rw[List.drop_length]
   refine⟨v,qh ?_⟩
   unfold bw
   dsimp only
   rw[z8 (xi _),ze _ rfl rfl rfl,ze _ rfl rfl rfl,zx _ rfl,zx _ rfl,z7]
   show _=some (Sum.inr (v,((s,k0),(([]:List Term),acc++([]:List Term)))))
   rw[List.append_nil]
  | succ m ih =>
   intro k acc v hk ha
   have h1:k<l.length:=by omega
   have pJ:k<(l.map qt).length:=by rw[List.length_map]; exact h1
   have hqk:=hq _ (List.getElem_mem h1)
   have hm:=Gi l[k].2 vd (by omega) (by omega)
   have hml:=Xr l[k].2 vd
   have hz:=KA (l[k].2*vd) (by omega)
   have Ta:(bw (xn vd) (l.map qt) (l.length:Int) ((k:Int),(v,((s,k0),(([]:List Term),acc))))).run=some (.inl (((k+1:Nat):Int),(v,((s,k0),(([]:List Term),acc++(ug l[k].1 (l[k].2*vd)).map qt))))):=by
    unfold bw
    dsimp only
    rw[za (qL h1),zc (zo pJ),qP pJ,List.getElem_map]
    show(T.bind (eQ (xn l[k].2) (xn vd)) _).run=_
    rw[z6 hm,z6 hz]
    unfold ug
    by_cases c:l[k].2*vd=0
    ·rw[if_pos c,z8 (by rw[decide_eq_true c]; rfl),ze _ rfl rfl rfl,ze _ rfl rfl rfl,zx _ rfl,zx _ rfl,z7,vr k _ h1 (by omega)]
     show _=some (Sum.inl (_,(v,((s,k0),([],acc++([]:List Term))))))
     rw[List.append_nil]
    ·rw[if_neg c,za (by rw[decide_eq_false c]; rfl),qT _ rfl rfl rfl (by omega),ze _ rfl rfl rfl,ze _ (by simp) rfl (by simp),zx _ rfl,zx _ (by simp),z7,vr k _ h1 (by omega)]
     rfl
   have hll:=cG l[k].1 (l[k].2*vd)
   obtain⟨v',hv⟩:=ih (k+1) (acc++(ug l[k].1 (l[k].2*vd)).map qt) v (by omega) (by rw[List.length_append,List.length_map]; omega)
   refine⟨v',(qI Ta).trans (hv.trans ?_)⟩
   rw[List.drop_eq_getElem_cons h1]
   show _=some (v',((s,k0),([],acc++(ug l[k].1 (l[k].2*vd)++XB vd (l.drop (k+1))).map qt)))
   rw[List.map_append,List.append_assoc]
 obtain⟨v',h⟩:=key l.length 0 [] (0,eC) (by omega) (by simp)
 rw[List.drop_zero,List.nil_append]at h
 exact⟨v',h⟩
theorem jl(vd:Q)(s:Int)(c:AC)(hb:xz vd≤1000000)(hc:UO 1000000 c)(hl:c.1.length≤1000000):(uQ (xh s c) (xn vd)).run=some (xh s (H5 vd c)):=by
 have hm:=Gi c.2 vd (by have:=hc.1; omega) (by omega)
 obtain⟨v,hL⟩:=z18 vd hb s (xn (c.2*vd)) c.1 hl hc.2
 unfold uQ
 show(T.bind (eQ (xn c.2) (xn vd)) _).run=_
 rw[z6 hm,ze _ rfl rfl rfl,ze _ rfl rfl rfl,zx _ rfl,zx _ rfl]
 have hL:(eZ (xn vd) (xh s c).2.1 (Nat.cast (List.length (xh s c).2.1):Int) ((0:Int),(((0:Int),(false,(([]:List Int),(([]:List Int),())))),(((xh s c).1,((xn (c.2*vd)).1,((xn (c.2*vd)).2.1,((xn (c.2*vd)).2.2.1,())))),(([]:List Term),([]:List Term)))))).run=some (v,((s,xn (c.2*vd)),(([]:List Term),(XB vd c.1).map qt))):=by
  have e:(List.length (xh s c).2.1)=c.1.length:=by show(c.1.map qt).length=_; rw[List.length_map]
  rw[e]; exact hL
 rw[z6 hL]
 dsimp only
 rw[zx _ rfl,z7,Nat.zero_add,List.take_length,List.drop_zero]
 rfl
theorem Ut(v:Int)(q:Q)(l:List Term)(hq:xz q≤10000000)(hl:l.length≤1000000000):(vD v (xn q) l).run=some (l++(ug v q).map qt):=by
 unfold vD ug
 rw[z6 (Br q hq)]
 by_cases c:q=0
 ·rw[if_pos c,za (decide_eq_true c),ze _ rfl rfl rfl,zx _ rfl,z7]
  show some l=some (l++([]:List Term))
  rw[List.append_nil]
 ·rw[if_neg c,z8 (decide_eq_false c),z6 (CH q hq),qT _ rfl rfl rfl (by omega),ze _ (by simp) rfl (by simp),zx _ (by simp),z7]
  rfl
theorem uD(vd:Q)(s:Int)(c:AC)(hb:xz vd≤1000000)(hc:UO 1000000 c)(hl:c.1.length≤1000000):(wZ (xh s c) (xn vd)).run=some (xh s (H5 vd c)):=by
 have hm:=Jq c.2 vd (by have:=hc.1; omega) (by omega)
 have key:∀ (m k:Nat) (acc:List Term) (v:Int×Rat) (k0:Rat),k+m=c.1.length→acc.length≤k→∃ v',(lT (xh s c) (xn vd) ((k:Int),(v,((s,k0),(([]:List Term),acc))))).run=some (v',((s,k0),(([]:List Term),acc++(XB vd (c.1.drop k)).map qt))):=by
  intro m
  induction m with
  | zero =>
   intro k acc v k0 hk ha
   have:k=c.1.length:=by omega
   subst this
   rw[List.drop_length]
   refine⟨v,qh ?_⟩
   unfold yj
   dsimp only
   rw[show(xh s c).2.1=c.1.map qt from rfl,List.length_map,z8 (xi _),ze _ rfl rfl rfl,ze _ rfl rfl rfl,zx _ rfl,zx _ rfl,z7]
   show some (Sum.inr (v,((s,k0),(([]:List Term),acc))))=some (Sum.inr (v,((s,k0),(([]:List Term),acc++([]:List Term)))))
   rw[List.append_nil]
  | succ m ih =>
   intro k acc v k0 hk ha
   have h1:k<c.1.length:=by omega
   have pJ:k<(c.1.map qt).length:=by rw[List.length_map]; exact h1
   have hqk:=hc.2 _ (List.getElem_mem h1)
   have hm:=Jq c.1[k].2 vd (by omega) (by omega)
   have hml:=Xr c.1[k].2 vd
   have hla:=Ut c.1[k].1 (c.1[k].2*vd) acc (by omega) (by omega)
   have hll:=cG c.1[k].1 (c.1[k].2*vd)
   have Ta:(yj (xh s c) (xn vd) ((k:Int),(v,((s,k0),(([]:List Term),acc))))).run=some (.inl (((k+1:Nat):Int),(v,((s,k0),(([]:List Term),acc++(ug c.1[k].1 (c.1[k].2*vd)).map qt))))):=by
    unfold yj
    dsimp only
    rw[show(xh s c).2.1=c.1.map qt from rfl,za (by rw[List.length_map]; exact qL h1),zc (zo pJ),zc (zo pJ),qP pJ,List.getElem_map]
    show(T.bind (dy (xn c.1[k].2) (xn vd)) _).run=_
    rw[z6 hm,ze _ rfl rfl rfl,zx _ rfl]
    show(T.bind (vD c.1[k].1 (xn (c.1[k].2*vd)) acc) _).run=_
    rw[z6 hla,ze _ rfl rfl rfl,ze _ rfl rfl rfl,zx _ rfl,zx _ rfl,z7,vr k _ h1 (by omega)]
   obtain⟨v',hv⟩:=ih (k+1) (acc++(ug c.1[k].1 (c.1[k].2*vd)).map qt) v k0 (by omega) (by rw[List.length_append,List.length_map]; omega)
   refine⟨v',(qI Ta).trans (hv.trans ?_)⟩
   rw[List.drop_eq_getElem_cons h1]
   show _=some (v',((s,k0),([],acc++(ug c.1[k].1 (c.1[k].2*vd)++XB vd (c.1.drop (k+1))).map qt)))
   rw[List.map_append,List.append_assoc]
 obtain⟨v,hL⟩:=key c.1.length 0 [] (0,eC) (xn (c.2*vd)) (by omega) (by simp)
 rw[List.drop_zero,List.nil_append]at hL
 unfold wZ
 show(T.bind (dy (xn c.2) (xn vd)) _).run=_
 rw[z6 hm,ze _ rfl rfl rfl,ze _ rfl rfl rfl,zx _ rfl,zx _ rfl]
 have hL:(lT (xh s c) (xn vd) ((0:Int),(((0:Int),(false,(([]:List Int),(([]:List Int),())))),(((xh s c).1,((xn (c.2*vd)).1,((xn (c.2*vd)).2.1,((xn (c.2*vd)).2.2.1,())))),(([]:List Term),([]:List Term)))))).run=some (v,((s,xn (c.2*vd)),(([]:List Term),(XB vd c.1).map qt))):=hL
 rw[z6 hL]
 dsimp only
 rw[zx _ rfl,z7,Nat.zero_add,List.take_length,List.drop_zero]
 rfl
theorem z1a(n:Nat):mn n [] []=[]:=by cases n<;>rfl
theorem oo(s s2:Int)(a b:AC)(ha:UO 1000000 a)(hb:UO 1000000 b)(la:a.1.length≤1000000)(lb:b.1.length≤1000000):(dC (xh s a) (xh s2 b)).run=some (xh s (adC a b)):=by
 have hm:=Jn a.2 b.2 (by have:=ha.1; omega) (by have:=hb.1; omega)
 have key:∀ (m i k:Nat) (acc:List Term) (v:Int×Rat) (k0:Rat),i≤a.1.length→k≤b.1.length→(a.1.length-i)+(b.1.length-k)≤m→acc.length≤i+k →
   ∃ v',(gz (xh s a) (xh s2 b) ((i:Int),((k:Int),(v,((s,k0),(([]:List Term),acc)))))).run=some (v',((s,k0),(([]:List Term),acc++(mn m (a.1.drop i) (b.1.drop k)).map qt))):=by
  intro m
  induction m with
  | zero =>
   intro i k acc v k0 hi hk hm ha
   have e1:i=a.1.length:=by omega
   have e2:k=b.1.length:=by omega
   subst e1 e2
   refine⟨v,qh ?_⟩
   unfold uU
   dsimp only
   rw[show(xh s a).2.1=a.1.map qt from rfl,show(xh s2 b).2.1=b.1.map qt from rfl,List.length_map,List.length_map,z8 (by rw[xi,xi]; rfl),ze _ rfl rfl rfl,ze _ rfl rfl rfl,zx _ rfl,zx _ rfl,z7]
   show some (Sum.inr (v,((s,k0),(([]:List Term),acc))))=some (Sum.inr (v,((s,k0),(([]:List Term),acc++([]:List Term)))))
   rw[List.append_nil]
  | succ m ih =>
   intro i k acc v k0 hi hk hm FA
   by_cases UR:i=a.1.length∧k=b.1.length
   ·obtain⟨e1,e2⟩:=UR
    subst e1 e2
    refine⟨v,qh ?_⟩
    rw[List.drop_length,List.drop_length,z1a]
    unfold uU
    dsimp only
    rw[show(xh s a).2.1=a.1.map qt from rfl,show(xh s2 b).2.1=b.1.map qt from rfl,List.length_map,List.length_map,z8 (by rw[xi,xi]; rfl),ze _ rfl rfl rfl,ze _ rfl rfl rfl,zx _ rfl,zx _ rfl,z7]
    show some (Sum.inr (v,((s,k0),(([]:List Term),acc))))=some (Sum.inr (v,((s,k0),(([]:List Term),acc++([]:List Term)))))
    rw[List.append_nil]
   ·-- which of the two goes on
    have go:∀ (i' k':Nat) (t:Int) (q:Q),(uU (xh s a) (xh s2 b) ((i:Int),((k:Int),(v,((s,k0),(([]:List Term),acc)))))).run=some (.inl ((i':Int),((k':Int),(v,((s,k0),(([]:List Term),acc++(ug t q).map qt)))))) →
      i'≤a.1.length→k'≤b.1.length→(a.1.length-i')+(b.1.length-k')≤m→i+k+1≤i'+k'→mn (m+1) (a.1.drop i) (b.1.drop k)=ug t q++mn m (a.1.drop i') (b.1.drop k') →
      ∃ v',(gz (xh s a) (xh s2 b) ((i:Int),((k:Int),(v,((s,k0),(([]:List Term),acc)))))).run=some (v',((s,k0),(([]:List Term),acc++(mn (m+1) (a.1.drop i) (b.1.drop k)).map qt))):=by
     intro i' k' t q xN h1 h2 h3 h4 h5
     have hll:=cG t q
     obtain⟨v',hv⟩:=ih i' k' (acc++(ug t q).map qt) v k0 h1 h2 h3 (by rw[List.length_append,List.length_map]; omega)
     refine⟨v',(qI xN).trans (hv.trans ?_)⟩
     rw[h5,List.map_append,List.append_assoc]
    have hqa:=ha.2
    have hqb:=hb.2
    have c0:(decide ((i:Int)<(a.1.length:Int))||decide ((k:Int)<(b.1.length:Int)))=true:=by
     by_cases h:i<a.1.length
     ·rw[qL h]; rfl
     ·rw[qL (show k<b.1.length by omega),Bool.or_true]
    -- the first goes on
    have one:∀ (np:i<a.1.length),(((k:Int)==(b.1.length:Int))||(decide ((i:Int)<(a.1.length:Int))&&decide ((nth (a.1.map qt) (i:Int) (zb zq)).1<(nth (b.1.map qt) (k:Int) (zb zq)).1)))=true →
      mn (m+1) (a.1.drop i) (b.1.drop k)=ug a.1[i].1 a.1[i].2++mn m (a.1.drop (i+1)) (b.1.drop k) →
      ∃ v',(gz (xh s a) (xh s2 b) ((i:Int),((k:Int),(v,((s,k0),(([]:List Term),acc)))))).run=some (v',((s,k0),(([]:List Term),acc++(mn (m+1) (a.1.drop i) (b.1.drop k)).map qt))):=by
     intro np hc hA
     have Fh:i<(a.1.map qt).length:=by rw[List.length_map]; exact np
     have hqk:=hqa _ (List.getElem_mem np)
     have hla:=Ut a.1[i].1 a.1[i].2 acc (by omega) (by omega)
     refine go (i+1) k a.1[i].1 a.1[i].2 ?_ (by omega) hk (by omega) (by omega) hA
     unfold uU
     dsimp only
     rw[show(xh s a).2.1=a.1.map qt from rfl,show(xh s2 b).2.1=b.1.map qt from rfl,List.length_map,List.length_map,za c0,
      zc (fun hkb _=>⟨zo np,by have:k≠b.1.length:=(by rintro rfl; simp at hkb); exact zo (by omega)⟩),za hc,zc (zo np),zc (zo np),ze _ rfl rfl rfl,zx _ rfl,qP Fh,List.getElem_map]
     show(T.bind (vD a.1[i].1 (xn a.1[i].2) acc) _).run=_
     rw[z6 hla,ze _ rfl rfl rfl,ze _ rfl rfl rfl,zx _ rfl,zx _ rfl,z7,vr i _ np (by omega)]
    have two:∀ (X8:k<b.1.length),(((k:Int)==(b.1.length:Int))||(decide ((i:Int)<(a.1.length:Int))&&decide ((nth (a.1.map qt) (i:Int) (zb zq)).1<(nth (b.1.map qt) (k:Int) (zb zq)).1)))=false →
      (((i:Int)==(a.1.length:Int))||decide ((nth (b.1.map qt) (k:Int) (zb zq)).1<(nth (a.1.map qt) (i:Int) (zb zq)).1))=true →
      mn (m+1) (a.1.drop i) (b.1.drop k)=ug b.1[k].1 b.1[k].2++mn m (a.1.drop i) (b.1.drop (k+1)) →
      ∃ v',(gz (xh s a) (xh s2 b) ((i:Int),((k:Int),(v,((s,k0),(([]:List Term),acc)))))).run=some (v',((s,k0),(([]:List Term),acc++(mn (m+1) (a.1.drop i) (b.1.drop k)).map qt))):=by
     intro X8 hc RT hA
     have z1m:k<(b.1.map qt).length:=by rw[List.length_map]; exact X8
     have hqk:=hqb _ (List.getElem_mem X8)
     have hla:=Ut b.1[k].1 b.1[k].2 acc (by omega) (by omega)
     refine go i (k+1) b.1[k].1 b.1[k].2 ?_ hi (by omega) (by omega) (by omega) hA
     unfold uU
     dsimp only
     rw[show(xh s a).2.1=a.1.map qt from rfl,show(xh s2 b).2.1=b.1.map qt from rfl,List.length_map,List.length_map,za c0,
      zc (fun _ hia=>⟨zo (by simpa using hia),zo X8⟩),z8 hc,
      zc (fun hia=>⟨zo X8,by have:i≠a.1.length:=(by rintro rfl; simp at hia); exact zo (by omega)⟩),za RT,zc (zo X8),zc (zo X8),ze _ rfl rfl rfl,zx _ rfl,qP z1m,List.getElem_map]
     show(T.bind (vD b.1[k].1 (xn b.1[k].2) acc) _).run=_
     rw[z6 hla,ze _ rfl rfl rfl,ze _ rfl rfl rfl,zx _ rfl,zx _ rfl,z7,vr k _ X8 (by omega)]
    have kk:∀ h:k<b.1.length,((k:Int)==(b.1.length:Int))=false:=fun h=>by rw[beq_eq_false_iff_ne]; omega
    by_cases yh:k=b.1.length
    ·have np:i<a.1.length:=by omega
     refine one np (by rw[yh]; simp) ?_
     subst yh
     rw[List.drop_length,List.drop_eq_getElem_cons np]
     rfl
    ·have X8:k<b.1.length:=by omega
     have z1m:k<(b.1.map qt).length:=by rw[List.length_map]; exact X8
     by_cases Zw:i=a.1.length
     ·refine two X8 (by rw[kk X8,Zw,xi]; rfl) (by rw[Zw]; simp) ?_
      subst Zw
      rw[List.drop_length,List.drop_eq_getElem_cons X8]
      rfl
     ·have np:i<a.1.length:=by omega
      have Fh:i<(a.1.map qt).length:=by rw[List.length_map]; exact np
      have en:(nth (a.1.map qt) (i:Int) (zb zq)).1=a.1[i].1:=by rw[qP Fh,List.getElem_map]; rfl
      have em:(nth (b.1.map qt) (k:Int) (zb zq)).1=b.1[k].1:=by rw[qP z1m,List.getElem_map]; rfl
      have ii:((i:Int)==(a.1.length:Int))=false:=by rw[beq_eq_false_iff_ne]; omega
      by_cases c1:a.1[i].1<b.1[k].1
      ·refine one np (by rw[en,em,decide_eq_true c1,qL np]; simp) ?_
       rw[List.drop_eq_getElem_cons np,List.drop_eq_getElem_cons X8]
       show(if a.1[i].1<b.1[k].1 then _ else _)=_
       rw[if_pos c1]
      ·have EC:(((k:Int)==(b.1.length:Int))||(decide ((i:Int)<(a.1.length:Int))&&decide ((nth (a.1.map qt) (i:Int) (zb zq)).1<(nth (b.1.map qt) (k:Int) (zb zq)).1)))=false:=by
        rw[en,em,decide_eq_false c1,kk X8]; simp
       by_cases c2:b.1[k].1<a.1[i].1
       ·refine two X8 EC (by rw[en,em,decide_eq_true c2]; simp) ?_
        rw[List.drop_eq_getElem_cons np,List.drop_eq_getElem_cons X8]
        show(if a.1[i].1<b.1[k].1 then _ else if b.1[k].1<a.1[i].1 then _ else _)=_
        rw[if_neg c1,if_pos c2]
       ·have q1:=hqa _ (List.getElem_mem np)
        have q2:=hqb _ (List.getElem_mem X8)
        have hml:=QE a.1[i].2 b.1[k].2
        have Jo:=Jn a.1[i].2 b.1[k].2 (by omega) (by omega)
        have hla:=Ut a.1[i].1 (a.1[i].2+b.1[k].2) acc (by omega) (by omega)
        refine go (i+1) (k+1) a.1[i].1 (a.1[i].2+b.1[k].2) ?_ (by omega) (by omega) (by omega) (by omega) ?_
        ·unfold uU
         dsimp only
         rw[show(xh s a).2.1=a.1.map qt from rfl,show(xh s2 b).2.1=b.1.map qt from rfl,List.length_map,List.length_map,za c0,
          zc (fun _ _=>⟨zo np,zo X8⟩),z8 EC,zc (fun _=>⟨zo X8,zo np⟩),z8 (by rw[en,em,decide_eq_false c2,ii]; rfl),zc (zo np),zc (zo np),zc (zo X8),qP Fh,qP z1m,List.getElem_map,List.getElem_map]
         show(T.bind (dx (xn a.1[i].2) (xn b.1[k].2)) _).run=_
         rw[z6 Jo,ze _ rfl rfl rfl,zx _ rfl]
         show(T.bind (vD a.1[i].1 (xn (a.1[i].2+b.1[k].2)) acc) _).run=_
         rw[z6 hla,ze _ rfl rfl rfl,ze _ rfl rfl rfl,zx _ rfl,zx _ rfl,z7,vr i _ np (by omega),vr k _ X8 (by omega)]
        ·rw[List.drop_eq_getElem_cons np,List.drop_eq_getElem_cons X8]
         show(if a.1[i].1<b.1[k].1 then _ else if b.1[k].1<a.1[i].1 then _ else _)=_
         rw[if_neg c1,if_neg c2]
 obtain⟨v,hL⟩:=key (a.1.length+b.1.length) 0 0 [] (0,eC) (xn (a.2+b.2)) (by omega) (by omega) (by omega) (by simp)
 rw[List.drop_zero,List.drop_zero,List.nil_append]at hL
 unfold dC
 show(T.bind (dx (xn a.2) (xn b.2)) _).run=_
 rw[z6 hm,ze _ rfl rfl rfl,ze _ rfl rfl rfl,zx _ rfl,zx _ rfl]
 have hL:(gz (xh s a) (xh s2 b) ((0:Int),((0:Int),(((0:Int),(false,(([]:List Int),(([]:List Int),())))),(((xh s a).1,((xn (a.2+b.2)).1,((xn (a.2+b.2)).2.1,((xn (a.2+b.2)).2.2.1,())))),(([]:List Term),([]:List Term))))))).run=some (v,((s,xn (a.2+b.2)),(([]:List Term),(mn (a.1.length+b.1.length) a.1 b.1).map qt))):=hL
 rw[z6 hL]
 dsimp only
 rw[zx _ rfl,z7,Nat.zero_add,List.take_length,List.drop_zero]
 rfl
theorem mq(t:Int×Q)(r:List (Int×Q)):uq (e:=zq) (1:Int) (((List.map qt (t::r)).length:Nat):Int) (List.map qt (t::r))=r.map qt:=by
 unfold uq
 rw[Int.toNat_natCast,List.take_length]
 rfl
theorem rA(s s2:Int)(a b:AC)(ha:UO 1000000 a)(hb:UO 1000000 b)(la:a.1.length≤1000000)(lb:b.1.length≤1000000):(sM (xh s a) (xh s2 b)).run=some (xh s (adC a b)):=by
 have hm:=YQ a.2 b.2 (by have:=ha.1; omega) (by have:=hb.1; omega)
 have key:∀ (n:Nat) (l m:List (Int×Q)) (acc:List Term) (v:Int×Rat) (k0:Rat),l.length+m.length≤n→acc.length+(l.length+m.length)≤10000000→(∀ t∈l,xz t.2≤1000000)→(∀ t∈m,xz t.2≤1000000) →
   ∃ v',(ob (l.map qt,(m.map qt,(v,((s,k0),(([]:List Term),acc)))))).run=some (v',((s,k0),(([]:List Term),acc++(mn n l m).map qt))):=by
  intro n
  induction n with
  | zero =>
   intro l m acc v k0 hn FA hl hm
   have e1:l=[]:=List.eq_nil_of_length_eq_zero (by omega)
   have e2:m=[]:=List.eq_nil_of_length_eq_zero (by omega)
   subst e1 e2
   refine⟨v,qh ?_⟩
   show(vc (([]:List Term),(([]:List Term),(v,((s,k0),(([]:List Term),acc)))))).run=some (.inr (v,((s,k0),(([]:List Term),acc++([]:List Term)))))
   rw[List.append_nil]
   unfold vc
   dsimp only
   rw[z8 (by rfl),ze _ rfl rfl rfl,ze _ rfl rfl rfl,zx _ rfl,zx _ rfl,z7]
  | succ n ih =>
   intro l m acc v k0 hn FA hl hm
   by_cases UR:l=[]∧m=[]
   ·obtain⟨rfl,rfl⟩:=UR
    refine⟨v,qh ?_⟩
    show(vc (([]:List Term),(([]:List Term),(v,((s,k0),(([]:List Term),acc)))))).run=some (.inr (v,((s,k0),(([]:List Term),acc++([]:List Term)))))
    rw[List.append_nil]
    unfold vc
    dsimp only
    rw[z8 (by rfl),ze _ rfl rfl rfl,ze _ rfl rfl rfl,zx _ rfl,zx _ rfl,z7]
   ·have Wa:0<l.length+m.length:=by
     cases l with
     | nil=>cases m with
      | nil=>exact absurd ⟨rfl,rfl⟩ UR
      | cons=>simp
     | cons=>simp; omega
    have c0:decide ((0:Int)<(zt (((l.map qt).length:Int)+((m.map qt).length:Int))))=true:=by
     rw[List.length_map,List.length_map,zN (by omega) (by omega)]
     exact decide_eq_true (by omega)
    -- what is laid
    have lay:∀ (l' m':List (Int×Q)) (t:Int) (q:Q),xz q≤10000000 →
      ((T.bind (dc ((qt (t,q)).2.1.1,((qt (t,q)).2.1.2.1,((qt (t,q)).2.1.2.2.1,())))) fun r4 =>
       .ite (!r4)
        (.zd (xp (List.length acc) (List.length acc) (0:Nat) (List.length acc) (List.length acc) (1:Nat) (64:Nat)) <|
         .zd (zh (List.length ([]:List Term)) (0:Nat) (List.length ([]:List Term)) (List.length ([]:List Term))) <|
         .zd (zh ((List.length acc)+(1:Nat)) (0:Nat) ((List.length acc)+(1:Nat)) (List.length (acc++([qt (t,q)]:List Term)))) <|
         .zd ((List.length ([]:List Term))=(List.length ([]:List Term))) <|
         .zd (((List.length acc)+(1:Nat))=(List.length (acc++([qt (t,q)]:List Term)))) <|
         .ret (.inl (l'.map qt,(m'.map qt,(v,((s,k0),(([]:List Term),(acc++([qt (t,q)]:List Term)))))))))
        (.zd (zh (List.length ([]:List Term)) (0:Nat) (List.length ([]:List Term)) (List.length ([]:List Term))) <|
         .zd (zh (List.length acc) (0:Nat) (List.length acc) (List.length acc)) <|
         .zd ((List.length ([]:List Term))=(List.length ([]:List Term))) <|
         .zd ((List.length acc)=(List.length acc)) <|
         .ret (.inl (l'.map qt,(m'.map qt,(v,((s,k0),(([]:List Term),acc)))))))):T (((List Term)×(List Term)×(Int×Rat)×(Int×Rat)×(List Term)×(List Term))⊕((Int×Rat)×(Int×Rat)×(List Term)×(List Term)))).run =
      some (.inl (l'.map qt,(m'.map qt,(v,((s,k0),(([]:List Term),acc++(ug t q).map qt)))))):=by
     intro l' m' t q hq
     have hz:=KA q hq
     show(T.bind (dc (xn q)) _).run=_
     rw[z6 hz]
     unfold ug
     by_cases c:q=0
     ·rw[if_pos c,z8 (by rw[decide_eq_true c]; rfl),ze _ rfl rfl rfl,ze _ rfl rfl rfl,zx _ rfl,zx _ rfl,z7]
      show _=some (Sum.inl (_,(_,(v,((s,k0),([],acc++([]:List Term)))))))
      rw[List.append_nil]
     ·rw[if_neg c,za (by rw[decide_eq_false c]; rfl),qT _ rfl rfl rfl (by omega),ze _ rfl rfl rfl,ze _ (by simp) rfl (by simp),zx _ rfl,zx _ (by simp),z7]
      rfl
    have on:∀ (l' m':List (Int×Q)) (t:Int) (q:Q),(vc (l.map qt,(m.map qt,(v,((s,k0),(([]:List Term),acc)))))).run=some (.inl (l'.map qt,(m'.map qt,(v,((s,k0),(([]:List Term),acc++(ug t q).map qt)))))) →
      l'.length+m'.length+1≤l.length+m.length→(∀ t∈l',xz t.2≤1000000)→(∀ t∈m',xz t.2≤1000000)→mn (n+1) l m=ug t q++mn n l' m' →
      ∃ v',(ob (l.map qt,(m.map qt,(v,((s,k0),(([]:List Term),acc)))))).run=some (v',((s,k0),(([]:List Term),acc++(mn (n+1) l m).map qt))):=by
     intro l' m' t q xN h1 h2 h3 h4
     have hll:=cG t q
     obtain⟨v',hv⟩:=ih l' m' (acc++(ug t q).map qt) v k0 (by omega) (by rw[List.length_append,List.length_map]; omega) h2 h3
     refine⟨v',(qI xN).trans (hv.trans ?_)⟩
     rw[h4,List.map_append,List.append_assoc]
    have i0:∀ (t:Int×Q) (r:List (Int×Q)),zi (0:Int) ((List.map qt (t::r)).length):=fun t r=>⟨by omega,by simp only[List.length_map,List.length_cons]; omega⟩
    have s1:∀ (t:Int×Q) (r:List (Int×Q)),mM (1:Int) (((List.map qt (t::r)).length:Nat):Int) ((List.map qt (t::r)).length):=fun t r=>⟨by omega,by simp only[List.length_map,List.length_cons]; omega,by omega⟩
    have n0:∀ (t:Int×Q) (r:List (Int×Q)),nth (List.map qt (t::r)) (0:Int) (zb zq)=qt t:=fun t r=>rfl
    have ln:∀ (t:Int×Q) (r:List (Int×Q)),((((List.map qt (t::r)).length:Nat):Int)==0)=false:=fun t r=>by rw[beq_eq_false_iff_ne]; simp only[List.length_map,List.length_cons]; omega
    have lp:∀ (t:Int×Q) (r:List (Int×Q)),decide ((0:Int)<(((List.map qt (t::r)).length:Nat):Int))=true:=fun t r=>decide_eq_true (by simp only[List.length_map,List.length_cons]; omega)
    cases l with
    | nil =>
     cases m with
     | nil=>exact absurd ⟨rfl,rfl⟩ UR
     | cons u m =>
      have hqu:=hm u List.mem_cons_self
      have Lm:=ZG u.2 (by omega)
      refine on [] m u.1 u.2 ?_ (by simp) hl (fun t ht=>hm t (List.mem_cons_of_mem _ ht)) rfl
      unfold vc
      dsimp only
      rw[za c0]
      rw[z6 (a:=(List.map qt [],(List.map qt m,(v,((s,k0),(([]:List Term),(acc,qt (u.1,u.2)))))))) (by
       rw[zc (fun _ h=>by simp at h),z8 (by rw[ln]; rfl),zc (fun h=>by simp at h),za (by rfl),zc (i0 u m),zc (i0 u m),n0]
       show(T.bind (xR (xn u.2)) _).run=_
       rw[z6 Lm,zc (s1 u m),ze _ rfl rfl rfl,ze _ rfl rfl rfl,zx _ rfl,zx _ rfl,z7,mq]
       rfl)]
      exact lay [] m u.1 u.2 (by omega)
    | cons t l =>
     have hqt:=hl t List.mem_cons_self
     have hnt:=ZG t.2 (by omega)
     cases m with
     | nil =>
      refine on l [] t.1 t.2 ?_ (by simp) (fun x hx=>hl x (List.mem_cons_of_mem _ hx)) hm rfl
      unfold vc
      dsimp only
      rw[za c0]
      rw[z6 (a:=(List.map qt l,(List.map qt [],(v,((s,k0),(([]:List Term),(acc,qt (t.1,t.2)))))))) (by
       rw[zc (fun h=>by simp at h),za (by rfl),zc (i0 t l),zc (i0 t l),n0]
       show(T.bind (xR (xn t.2)) _).run=_
       rw[z6 hnt,zc (s1 t l),ze _ rfl rfl rfl,ze _ rfl rfl rfl,zx _ rfl,zx _ rfl,z7,mq]
       rfl)]
      exact lay l [] t.1 t.2 (by omega)
     | cons u m =>
      have hqu:=hm u List.mem_cons_self
      have Lm:=ZG u.2 (by omega)
      have hml:=QE t.2 u.2
      have Jo:=YQ t.2 u.2 (by omega) (by omega)
      have hA:mn (n+1) (t::l) (u::m)=if t.1<u.1 then ug t.1 t.2++mn n l (u::m)else if u.1<t.1 then ug u.1 u.2++mn n (t::l) m else ug t.1 (t.2+u.2)++mn n l m:=rfl
      by_cases c1:t.1<u.1
      ·refine on l (u::m) t.1 t.2 ?_ (by simp only[List.length_cons]; omega) (fun x hx=>hl x (List.mem_cons_of_mem _ hx)) hm (by rw[hA,if_pos c1])
       unfold vc
       dsimp only
       rw[za c0]
       rw[z6 (a:=(List.map qt l,(List.map qt (u::m),(v,((s,k0),(([]:List Term),(acc,qt (t.1,t.2)))))))) (by
        rw[zc (fun _ _=>⟨i0 t l,i0 u m⟩),za (by rw[ln,lp,n0,n0]; show(false||(true&&decide (t.1<u.1)))=true; rw[decide_eq_true c1]; rfl),zc (i0 t l),zc (i0 t l),n0]
        show(T.bind (xR (xn t.2)) _).run=_
        rw[z6 hnt,zc (s1 t l),ze _ rfl rfl rfl,ze _ rfl rfl rfl,zx _ rfl,zx _ rfl,z7,mq]
        rfl)]
       exact lay l (u::m) t.1 t.2 (by omega)
      ·by_cases c2:u.1<t.1
       ·refine on (t::l) m u.1 u.2 ?_ (by simp only[List.length_cons]; omega) hl (fun x hx=>hm x (List.mem_cons_of_mem _ hx)) (by rw[hA,if_neg c1,if_pos c2])
        unfold vc
        dsimp only
        rw[za c0]
        rw[z6 (a:=(List.map qt (t::l),(List.map qt m,(v,((s,k0),(([]:List Term),(acc,qt (u.1,u.2)))))))) (by
         rw[zc (fun _ _=>⟨i0 t l,i0 u m⟩),z8 (by rw[ln,lp,n0,n0]; show(false||(true&&decide (t.1<u.1)))=false; rw[decide_eq_false c1]; rfl),zc (fun _=>⟨i0 u m,i0 t l⟩),za (by rw[ln,n0,n0]; show(false||decide (u.1<t.1))=true; rw[decide_eq_true c2]; rfl),zc (i0 u m),zc (i0 u m),n0]
         show(T.bind (xR (xn u.2)) _).run=_
         rw[z6 Lm,zc (s1 u m),ze _ rfl rfl rfl,ze _ rfl rfl rfl,zx _ rfl,zx _ rfl,z7,mq]
         rfl)]
        exact lay (t::l) m u.1 u.2 (by omega)
       ·refine on l m t.1 (t.2+u.2) ?_ (by simp only[List.length_cons]; omega) (fun x hx=>hl x (List.mem_cons_of_mem _ hx)) (fun x hx=>hm x (List.mem_cons_of_mem _ hx)) (by rw[hA,if_neg c1,if_neg c2])
        unfold vc
        dsimp only
        rw[za c0]
        rw[z6 (a:=(List.map qt l,(List.map qt m,(v,((s,k0),(([]:List Term),(acc,qt (t.1,t.2+u.2)))))))) (by
         rw[zc (fun _ _=>⟨i0 t l,i0 u m⟩),z8 (by rw[ln,lp,n0,n0]; show(false||(true&&decide (t.1<u.1)))=false; rw[decide_eq_false c1]; rfl),zc (fun _=>⟨i0 u m,i0 t l⟩),z8 (by rw[ln,n0,n0]; show(false||decide (u.1<t.1))=false; rw[decide_eq_false c2]; rfl),zc (i0 t l),zc (i0 t l),zc (i0 u m),n0,n0]
         show(T.bind (lQ (xn t.2) (xn u.2)) _).run=_
         rw[z6 Jo,zc (s1 t l),zc (s1 u m),ze _ rfl rfl rfl,ze _ rfl rfl rfl,zx _ rfl,zx _ rfl,z7,mq,mq]
         rfl)]
        exact lay l m t.1 (t.2+u.2) (by omega)
 obtain⟨v,hL⟩:=key (a.1.length+b.1.length) a.1 b.1 [] (0,eC) (xn (a.2+b.2)) (by omega) (by simp; omega) ha.2 hb.2
 rw[List.nil_append]at hL
 unfold sM
 show(T.bind (lQ (xn a.2) (xn b.2)) _).run=_
 rw[z6 hm,ze _ rfl rfl rfl,ze _ rfl rfl rfl,zx _ rfl,zx _ rfl]
 have hL:(ob ((xh s a).2.1,((xh s2 b).2.1,(((0:Int),(false,(([]:List Int),(([]:List Int),())))),(((xh s a).1,((xn (a.2+b.2)).1,((xn (a.2+b.2)).2.1,((xn (a.2+b.2)).2.2.1,())))),(([]:List Term),([]:List Term))))))).run=some (v,((s,xn (a.2+b.2)),(([]:List Term),(mn (a.1.length+b.1.length) a.1 b.1).map qt))):=hL
 rw[z6 hL]
 dsimp only
 rw[zx _ rfl,z7,Nat.zero_add,List.take_length,List.drop_zero]
 rfl
abbrev VN:AC:=([],0)
def zC:wC:=((0:Int),(([]:List Term),((false,(([]:List Int),(([]:List Int),()))),())))
def gC(r:AC×Int):wC×Int:=(if r.2=0 then xh 0 r.1 else zC,r.2)
theorem uv{k m:Nat}{c:AC}(h:UO k c)(hk:k≤m):UO m c:=⟨Nat.le_trans h.1 hk,fun t ht=>Nat.le_trans (h.2 t ht) hk⟩
theorem sU{v:Int}{q:Q}{t:Int×Q}(h:t∈ug v q):t.2=q:=by
 unfold ug at h
 split at h
 ·cases h
 ·rw[List.mem_singleton]at h; rw[h]
theorem z00{b:Q}{k j:Nat}(hb:xz b≤j):∀ {l:List (Int×Q)},(∀ t∈l,xz t.2≤k)→∀ t∈XB b l,xz t.2≤k+j
 | [],_,t,h=>by cases h
 | u::r,hl,t,h=>by
  have h:t∈ug u.1 (u.2*b)++XB b r:=h
  rcases List.mem_append.1 h with h | h
  ·rw[sU h]
   have:=Xr u.2 b
   have:=hl u List.mem_cons_self
   omega
  ·exact z00 hb (fun x hx=>hl x (List.mem_cons_of_mem _ hx)) t h
theorem lW{b:Q}{k j:Nat}{c:AC}(hb:xz b≤j)(h:UO k c):UO (k+j) (H5 b c):=by
 refine⟨?_,z00 hb h.2⟩
 have:=Xr c.2 b
 have:=h.1
 show xz (c.2*b)≤k+j
 omega
theorem We{k j:Nat}:∀ (n:Nat) (l m:List (Int×Q)),(∀ t∈l,xz t.2≤k)→(∀ t∈m,xz t.2≤j)→∀ t∈mn n l m,xz t.2≤k+j+1
 | 0,_,_,_,_,t,h=>by cases h
 | n+1,[],[],_,_,t,h=>by cases h
 | n+1,u::r,[],hl,hm,t,h=>by
  have h:t∈ug u.1 u.2++mn n r []:=h
  rcases List.mem_append.1 h with h | h
  ·rw[sU h]; have:=hl u List.mem_cons_self; omega
  ·exact We n r [] (fun x hx=>hl x (List.mem_cons_of_mem _ hx)) hm t h
 | n+1,[],u::m,hl,hm,t,h=>by
  have h:t∈ug u.1 u.2++mn n [] m:=h
  rcases List.mem_append.1 h with h | h
  ·rw[sU h]; have:=hm u List.mem_cons_self; omega
  ·exact We n [] m hl (fun x hx=>hm x (List.mem_cons_of_mem _ hx)) t h
 | n+1,u::r,w::m,hl,hm,t,h=>by
  have h:t∈(if u.1<w.1 then ug u.1 u.2++mn n r (w::m)else if w.1<u.1 then ug w.1 w.2++mn n (u::r) m else ug u.1 (u.2+w.2)++mn n r m):=h
  have h1:=hl u List.mem_cons_self
  have h2:=hm w List.mem_cons_self
  have LP:∀ t∈r,xz t.2≤k:=fun x hx=>hl x (List.mem_cons_of_mem _ hx)
  have hm':∀ t∈m,xz t.2≤j:=fun x hx=>hm x (List.mem_cons_of_mem _ hx)
  split at h
  ·rcases List.mem_append.1 h with h | h
   ·rw[sU h]; omega
   ·exact We n r (w::m) LP hm t h
  ·split at h
   ·rcases List.mem_append.1 h with h | h
    ·rw[sU h]; omega
    ·exact We n (u::r) m hl hm' t h
   ·rcases List.mem_append.1 h with h | h
    ·rw[sU h]; have:=QE u.2 w.2; omega
    ·exact We n r m LP hm' t h
theorem EH{k j:Nat}{a b:AC}(ha:UO k a)(hb:UO j b):UO (k+j+1) (adC a b):=by
 refine⟨?_,We _ _ _ ha.2 hb.2⟩
 have:=QE a.2 b.2
 have:=ha.1
 have:=hb.1
 show xz (a.2+b.2)≤k+j+1
 omega
theorem lg:∀ (n:Nat) (l m:List (Int×Q)),(mn n l m).length≤l.length+m.length
 | 0,_,_=>by show 0≤_; omega
 | n+1,[],[]=>Nat.le_refl _
 | n+1,u::r,[]=>by
  show(ug u.1 u.2++mn n r []).length≤_
  have:=cG u.1 u.2
  have:=lg n r []
  rw[List.length_append,List.length_cons]; omega
 | n+1,[],u::m=>by
  show(ug u.1 u.2++mn n [] m).length≤_
  have:=cG u.1 u.2
  have:=lg n [] m
  rw[List.length_append,List.length_cons]; omega
 | n+1,u::r,w::m=>by
  show(if u.1<w.1 then ug u.1 u.2++mn n r (w::m)else if w.1<u.1 then ug w.1 w.2++mn n (u::r) m else ug u.1 (u.2+w.2)++mn n r m).length≤_
  have h1:=lg n r (w::m)
  have h2:=lg n (u::r) m
  have h3:=lg n r m
  simp only[List.length_cons]at h1 h2 ⊢
  split
  ·have:=cG u.1 u.2; rw[List.length_append]; omega
  ·split
   ·have:=cG w.1 w.2; rw[List.length_append]; omega
   ·have:=cG u.1 (u.2+w.2); rw[List.length_append]; omega
def Za(k:Int)(a b:AC):AC×Int :=
 if k=3 then(adC a b,0)else if k=4 then(adC a (H5 (-1) b),0)
 else if k=5 then(if a.1≠[]∧b.1≠[]then(VN,6)else if a.1≠[]then(H5 b.2 a,0)else(H5 a.2 b,0))
 else(if b.1≠[]then(VN,6)else if b.2=0 then(VN,7)else(H5 (1 / b.2) a,0))
theorem HG:xz (1:Q)=1:=by
 unfold xz
 show max (zH 1).length (zH 1).length=1
 rw[Vf]; rfl
theorem cP:xz (-1:Q)=1:=by rw[RM,HG]
theorem JS(q:Q):xz (1 / q)≤xz q:=by
 have:=Pp q
 rwa [Rat.div_def,Rat.one_mul]
theorem y7(c:AC):decide ((0:Int)<(Nat.cast (List.length (xh 0 c).2.1):Int))=decide (c.1≠[]):=by
 show decide ((0:Int)<(Nat.cast (List.length (c.1.map qt)):Int))=_
 rw[List.length_map]
 refine decide_eq_decide.2 ?_
 cases c.1 with
 | nil=>simp
 | cons x r=>simp
theorem Ux:(uZ (-1:Int)).run=some (xn (-1:Q)):=dr (-1) ⟨by omega,by omega⟩
theorem Bs:(uZ (1:Int)).run=some (xn (1:Q)):=dr 1 ⟨by omega,by omega⟩
theorem Kt:(wa (-1:Int)).run=some (xn (-1:Q)):=gW (-1) ⟨by omega,by omega⟩
theorem C7:(wa (1:Int)).run=some (xn (1:Q)):=gW 1 ⟨by omega,by omega⟩
theorem En(k:Int)(a b:AC)(hk:k=3∨k=4∨k=5∨k=6)(ha:UO 400000 a)(hb:UO 400000 b)(la:a.1.length≤400000)(lb:b.1.length≤400000):(nR k (xh 0 a) (xh 0 b)).run=some (gC (Za k a b)):=by
 have Cm:=uv ha (by omega:400000≤1000000)
 have Zm:=uv hb (by omega:400000≤1000000)
 have m1:=cP
 unfold nR Za
 by_cases k3:k=3
 ·rw[if_pos k3,za (by simpa using k3),z6 (rA 0 0 a b Cm Zm (by omega) (by omega)),z7]
  rfl
 ·rw[if_neg k3,z8 (by simpa using k3)]
  by_cases k4:k=4
  ·have hs:=lW (b := -1) (j:=1) (by omega) hb
   have hl:=bL (-1) b.1
   rw[if_pos k4,za (by simpa using k4),z6 Ux,z6 (jl (-1) 0 b (by omega) Zm (by omega)),z6 (rA 0 0 a (H5 (-1) b) Cm (uv hs (by omega)) (by omega) (by show(XB (-1) b.1).length≤1000000; omega)),z7]
   rfl
  ·rw[if_neg k4,z8 (by simpa using k4)]
   by_cases k5:k=5
   ·rw[if_pos k5,za (by simpa using k5),y7,y7]
    by_cases c:a.1≠[]∧b.1≠[]
    ·rw[if_pos c,za (by rw[decide_eq_true c.1,decide_eq_true c.2]; rfl),z7]; rfl
    ·rw[if_neg c,z8 (by by_cases h:a.1≠[]; rw[decide_eq_false (fun h2=>c ⟨h,h2⟩),Bool.and_false]; rw[decide_eq_false h]; rfl)]
     by_cases c2:a.1≠[]
     ·rw[if_pos c2,za (decide_eq_true c2)]
      show(T.bind (uQ (xh 0 a) (xn b.2)) _).run=_
      rw[z6 (jl b.2 0 a (by have:=hb.1; omega) Cm (by omega)),z7]; rfl
     ·rw[if_neg c2,z8 (decide_eq_false c2)]
      show(T.bind (uQ (xh 0 b) (xn a.2)) _).run=_
      rw[z6 (jl a.2 0 b (by have:=ha.1; omega) Zm (by omega)),z7]; rfl
   ·have Bc:=hb.1
    have hd:=CK (xn 1) (xn b.2) (xa (by rw[HG]; omega)) (xa (by omega))
    rw[vI,vI]at hd
    rw[if_neg k5,z8 (by simpa using k5),z6 Bs]
    show(T.bind (Xa (xn 1) (xn b.2)) _).run=_
    rw[z6 hd]
    by_cases c:b.1≠[]
    ·rw[if_pos c]
     by_cases z:b.2=0
     ·rw[if_pos z]; dsimp only; rw[y7,za (decide_eq_true c),z7]; rfl
     ·rw[if_neg z]; dsimp only; rw[y7,za (decide_eq_true c),z7]; rfl
    ·rw[if_neg c]
     by_cases z:b.2=0
     ·rw[if_pos z,if_pos z]; dsimp only; rw[y7,z8 (decide_eq_false c),za (by rfl),z7]; rfl
     ·have:=JS b.2
      rw[if_neg z,if_neg z]; dsimp only
      rw[y7,z8 (decide_eq_false c),z8 (by rfl),z6 (jl (1 / b.2) 0 a (by omega) Cm (by omega)),z7]; rfl
def tS(X:List Rat)(j:Int):Q:=if j.toNat<X.length then val (nth X j (zb zI))else 0
def mB(v:zJ)(s:zf):AC×Int :=
 if 0≤PL.vE (zF s) 0 v.1 then(([(PL.vE (zF s) 0 v.1,1)],0),0)
 else if PL.vE (zF s) 0 v.2.1<0 then(VN,5)else(([],tS v.2.2.1 (PL.vE (zF s) 0 v.2.1)),0)
structure gG(v:zJ):Prop where
 l1:v.1.length≤100000
 l2:v.2.1.length≤100000
 l3:v.2.2.1.length≤100000
 ok:∀ x∈v.2.2.1,xd 100 x
theorem EV{α:Type}(p:α→Bool)(l:List α):PL.vE p 0 l = -1∨(0≤PL.vE p 0 l∧PL.vE p 0 l<l.length):=by
 have:=PL.TF p l 0 (Int.le_refl 0)
 omega
theorem Mx{v:zJ}(h:gG v)(j:Int)(hj:0≤j):(tF v.2.2.1 j).run=some (xn (tS v.2.2.1 j)):=by
 unfold tF tS
 by_cases c:j.toNat<v.2.2.1.length
 ·rw[if_pos c,z8 (by rw[decide_eq_false (by omega),decide_eq_false (by omega)]; rfl),zc ⟨hj,by omega⟩]
  have hm:nth v.2.2.1 j (zb zI)∈v.2.2.1:=by
   unfold nth
   rw[List.getD_eq_getElem?_getD,List.getElem?_eq_getElem c]
   exact List.getElem_mem c
  rw[z6 (j8 _ (xT (h.ok _ hm) (by omega))),z7,xw]
 ·have h0:(uZ (0:Int)).run=some (xn (0:Q)):=dr 0 ⟨by omega,by omega⟩
  rw[if_neg c,za (by rw[decide_eq_false (by omega),decide_eq_true (by omega)]; rfl),z6 h0,z7]
theorem Oi{v:zJ}(h:gG v)(j:Int):xz (tS v.2.2.1 j)≤100:=by
 unfold tS
 split
 ·rename_i c
  have hm:nth v.2.2.1 j (zb zI)∈v.2.2.1:=by
   unfold nth
   rw[List.getD_eq_getElem?_getD,List.getElem?_eq_getElem c]
   exact List.getElem_mem c
  exact uM (by omega) (h.ok _ hm)
 ·rw[tz]; omega
theorem Nt{v:zJ}(h:gG v)(s:zf):(tB s v).run=some (gC (mB v s)):=by
 have h1:(qw v.1 s).run=some (PL.vE (zF s) 0 v.1):=Zf v.1 s (by have:=h.l1; omega)
 have h2:(qw v.2.1 s).run=some (PL.vE (zF s) 0 v.2.1):=Zf v.2.1 s (by have:=h.l2; omega)
 have h0:(uZ (0:Int)).run=some (xn (0:Q)):=dr 0 ⟨by omega,by omega⟩
 unfold tB mB
 rw[z6 h1]
 by_cases c:0≤PL.vE (zF s) 0 v.1
 ·rw[if_pos c,za (decide_eq_true c),z6 Bs,z6 h0,z7]
  rfl
 ·rw[if_neg c,z8 (decide_eq_false c),z6 h2]
  by_cases c2:PL.vE (zF s) 0 v.2.1<0
  ·rw[if_pos c2,za (decide_eq_true c2),z7]; rfl
  ·rw[if_neg c2,z8 (decide_eq_false c2),z6 (Mx h _ (by omega)),z7]
   rfl
def z7b(k:Int):List (AC×Int)→AC×Int
 | [a]=>if a.2≠0 then(VN,a.2)else(H5 (-1) a.1,0)
 | [a,b]=>if a.2≠0 then(VN,a.2)else if b.2≠0 then(VN,b.2)else Za k a.1 b.1
 | _=>(VN,0)
mutual
def mc(v:zJ):Expr→AC×Int
 | .mk k n s l=>if k=1 then(([],val n),0)else if k=2 then mB v s else z7b k (ofL v l)
def ofL(v:zJ):List Expr→List (AC×Int)
 | []=>[]
 | e::r=>mc v e::ofL v r
end
theorem Fq(v:zJ)(k:Int)(n:Rat)(s:zf)(l:List Expr):mc v (.mk k n s l)=if k=1 then(([],val n),0)else if k=2 then mB v s else z7b k (ofL v l):=rfl
structure SzA(m:Nat)(r:AC×Int):Prop where
 sz:UO (202*m) r.1
 len:r.1.1.length≤m
theorem Ze{m:Nat}(hm:1≤m)(x:Int):SzA m (VN,x):=⟨⟨by rw[tz]; omega,fun t ht=>by cases ht⟩,by show 0≤m; omega⟩
theorem R1(k:Int){a b:AC}{m j:Nat}(ha:UO (202*m) a)(hb:UO (202*j) b)(la:a.1.length≤m)(lb:b.1.length≤j):SzA (1+(m+j)) (Za k a b):=by
 have m1:=cP
 unfold Za
 by_cases k3:k=3
 ·rw[if_pos k3]
  exact⟨uv (EH ha hb) (by omega),by have:=lg (a.1.length+b.1.length) a.1 b.1; show(mn (a.1.length+b.1.length) a.1 b.1).length≤_; omega⟩
 ·rw[if_neg k3]
  by_cases k4:k=4
  ·rw[if_pos k4]
   have hs:=lW (b := -1) (j:=1) (by omega) hb
   have hl:=bL (-1) b.1
   exact⟨uv (EH ha hs) (by omega),by have:=lg (a.1.length+(XB (-1) b.1).length) a.1 (XB (-1) b.1); show(mn (a.1.length+(XB (-1) b.1).length) a.1 (XB (-1) b.1)).length≤_; omega⟩
  ·rw[if_neg k4]
   by_cases k5:k=5
   ·rw[if_pos k5]
    split
    ·exact Ze (by omega) _
    ·split
     ·exact⟨uv (lW hb.1 ha) (by omega),by have:=bL b.2 a.1; show(XB b.2 a.1).length≤_; omega⟩
     ·exact⟨uv (lW ha.1 hb) (by omega),by have:=bL a.2 b.1; show(XB a.2 b.1).length≤_; omega⟩
   ·rw[if_neg k5]
    split
    ·exact Ze (by omega) _
    ·split
     ·exact Ze (by omega) _
     ·have:=JS b.2
      have:=hb.1
      exact⟨uv (lW (j:=202*j) (by omega) ha) (by omega),by have:=bL (1 / b.2) a.1; show(XB (1 / b.2) a.1).length≤_; omega⟩
theorem Pc{v:zJ}(hv:gG v)(s:zf):SzA 1 (mB v s):=by
 unfold mB
 split
 ·refine⟨⟨by rw[tz]; omega,fun t ht => ?_⟩,Nat.le_refl _⟩
  rw[List.mem_singleton]at ht
  rw[ht]
  show xz (1:Q)≤_
  rw[HG]; omega
 ·split
  ·exact Ze (by omega) _
  ·exact⟨⟨by have:=Oi hv (PL.vE (zF s) 0 v.2.1); show xz (tS v.2.2.1 (PL.vE (zF s) 0 v.2.1))≤_; omega,fun t ht=>by cases ht⟩,Nat.zero_le _⟩
theorem Ko(k:Int)(n:Rat)(s:zf)(a:Expr):wu (.mk k n s [a])=1+wu a:=rfl
theorem ZF(k:Int)(n:Rat)(s:zf)(a b:Expr):wu (.mk k n s [a,b])=1+(wu a+wu b):=rfl
theorem T7(e:Expr):1≤wu e:=by cases e; unfold wu; omega
theorem Wr{d:Nat}{k:Int}{n:Rat}{s:zf}{l:List Expr}(ho:vf d (.mk k n s l)=true):k=1∨k=2∨(k=7∧∃ a,l=[a]∧vf (d+1) a=true)∨((k=3∨k=4∨k=5∨k=6)∧∃ a b,l=[a,b]∧vf (d+1) a=true∧vf (d+1) b=true):=by
 obtain⟨hk,hl⟩:=X4 ho
 by_cases h1:k=1
 ·exact .inl h1
 ·by_cases h2:k=2
  ·exact .inr (.inl h2)
  ·rcases Hr hk h1 h2 with⟨h7,a,rfl⟩ | ⟨h36,a,b,rfl⟩
   ·have hl:(vf (d+1) a&&kU (d+1) [])=true:=hl
    rw[Bool.and_eq_true]at hl
    exact .inr (.inr (.inl ⟨h7,a,rfl,hl.1⟩))
   ·have hl:(vf (d+1) a&&(vf (d+1) b&&kU (d+1) []))=true:=hl
    rw[Bool.and_eq_true,Bool.and_eq_true]at hl
    exact .inr (.inr (.inr ⟨h36,a,b,rfl,hl.1,hl.2.1⟩))
theorem ZS{v:zJ}(hv:gG v):∀ (m:Nat) (e:Expr) (d:Nat),wu e≤m→vf d e=true→allOk e→SzA (wu e) (mc v e):=by
 intro m
 induction m with
 | zero=>intro e d hm; have:=T7 e; omega
 | succ m ih =>
  intro e d hm ho ha
  have hp:=T7 e
  cases e with | mk k n s l =>
  rw[Fq]
  rcases Wr ho with rfl | rfl | ⟨rfl,a,rfl,Ce⟩ | ⟨hk,a,b,rfl,Ce,hob⟩
  ·rw[if_pos rfl]
   have:=uM (by omega) ha.1
   exact⟨⟨by show xz (val n)≤_; omega,fun t ht=>by cases ht⟩,Nat.zero_le _⟩
  ·rw[if_neg (by decide),if_pos rfl]
   have:=Pc hv s
   exact⟨uv this.sz (by omega),Nat.le_trans this.len hp⟩
  ·rw[if_neg (by decide),if_neg (by decide)]
   rw[Ko]at hm ⊢
   have ka:=ih a (d+1) (by omega) Ce ha.2.1
   show SzA _ (if(mc v a).2≠0 then(VN,(mc v a).2)else(H5 (-1) (mc v a).1,0))
   split
   ·exact Ze (by omega) _
   ·have m1:=cP
    have hl:=bL (-1) (mc v a).1.1
    have:=ka.len
    exact⟨uv (lW (b := -1) (j:=1) (by omega) ka.sz) (by omega),by show(XB (-1) (mc v a).1.1).length≤_; omega⟩
  ·rw[if_neg (by omega),if_neg (by omega)]
   rw[ZF]at hm ⊢
   have ka:=ih a (d+1) (by omega) Ce ha.2.1
   have kb:=ih b (d+1) (by omega) hob ha.2.2.1
   show SzA _ (if(mc v a).2≠0 then(VN,(mc v a).2)else if(mc v b).2≠0 then(VN,(mc v b).2)else Za k (mc v a).1 (mc v b).1)
   split
   ·exact Ze (by omega) _
   ·split
    ·exact Ze (by omega) _
    ·exact R1 k ka.sz kb.sz ka.len kb.len
theorem wm{a:AC}{x:Int}(h:x≠0):gC (a,x)=(zC,x):=by unfold gC; rw[if_neg h]
theorem jf(a:AC):gC (a,0)=(xh 0 a,0):=by unfold gC; rw[if_pos rfl]
theorem BJ{v:zJ}(hv:gG v)(e:Expr)(d:Nat)(ho:vf d e=true)(ha:allOk e)(hn:wu e≤1000):(Uo e v).run=some (gC (mc v e)):=by
 unfold Uo
 refine kS (fun x:Expr×zJ=>(∃ d,vf d x.1=true)∧allOk x.1∧wu x.1≤1000∧x.2=v) (fun x=>wu x.1) (fun x=>gC (mc v x.1)) (fun x hx g hg => ?_) (x:=(e,v)) ⟨⟨d,ho⟩,ha,hn,rfl⟩
 obtain⟨e,v'⟩:=x
 obtain⟨⟨d,ho⟩,ha,hn,Li⟩:=hx
 dsimp only at ho ha hn Li ⊢
 subst Li
 cases e with | mk k n s l =>
 rw[Fq]
 unfold tk
 rw[show Expr.kind (.mk k n s l)=k from rfl,show Expr.kids (.mk k n s l)=l from rfl,show Expr.num (.mk k n s l)=n from rfl,show Expr.name (.mk k n s l)=s from rfl]
 rcases Wr ho with rfl | rfl | ⟨rfl,a,rfl,Ce⟩ | ⟨hk,a,b,rfl,Ce,hob⟩
 ·rw[if_pos rfl,za (by rfl),z6 (j8 n (xT ha.1 (by omega))),z7,xw]; rfl
 ·rw[if_neg (by decide),if_pos rfl,z8 (by rfl),za (by rfl),z6 (Nt hv s),z7]
 ·rw[Ko]at hn
  have hr:=hg (a,v') ⟨⟨_,Ce⟩,ha.2.1,by show wu a≤1000; omega,rfl⟩ (by show wu a<wu (.mk 7 n s [a]); rw[Ko]; omega)
  have ka:=ZS hv (wu a) a (d+1) (Nat.le_refl _) Ce ha.2.1
  dsimp only at hr
  rw[if_neg (by decide),if_neg (by decide),z8 (by rfl),z8 (by rfl),zc ⟨by omega,by simp⟩,show nth [a] (0:Int) (zb .expr)=a from rfl,z6 hr]
  show _=some (gC (if(mc v' a).2≠0 then(VN,(mc v' a).2)else(H5 (-1) (mc v' a).1,0)))
  generalize mc v' a=A at *
  obtain⟨A1,A2⟩:=A
  have kl:=ka.len
  dsimp only at ka kl ⊢
  by_cases c:A2≠0
  ·rw[if_pos c,wm c,wm c]
   dsimp only
   rw[za (by simpa using c),z7]; rfl
  ·have:A2=0:=by simpa using c
   subst this
   have m1:=cP
   rw[if_neg (by decide),jf,jf]
   dsimp only
   rw[z8 (by rfl),za (by rfl),z6 Ux,z6 (jl (-1) 0 A1 (by omega) (uv ka.sz (by omega)) (by omega)),z7]
 ·rw[ZF]at hn
  have hra:=hg (a,v') ⟨⟨_,Ce⟩,ha.2.1,by show wu a≤1000; omega,rfl⟩ (by show wu a<wu (.mk k n s [a,b]); rw[ZF]; omega)
  have hrb:=hg (b,v') ⟨⟨_,hob⟩,ha.2.2.1,by show wu b≤1000; omega,rfl⟩ (by show wu b<wu (.mk k n s [a,b]); rw[ZF]; omega)
  have ka:=ZS hv (wu a) a (d+1) (Nat.le_refl _) Ce ha.2.1
  have kb:=ZS hv (wu b) b (d+1) (Nat.le_refl _) hob ha.2.2.1
  dsimp only at hra hrb
  have k1:(k==1)=false:=by rw[beq_eq_false_iff_ne]; omega
  have k2:(k==2)=false:=by rw[beq_eq_false_iff_ne]; omega
  have k7:(k==7)=false:=by rw[beq_eq_false_iff_ne]; omega
  rw[if_neg (by omega),if_neg (by omega),z8 k1,z8 k2,zc ⟨by omega,by simp⟩,show nth [a,b] (0:Int) (zb .expr)=a from rfl,show nth [a,b] (1:Int) (zb .expr)=b from rfl,z6 hra]
  show _=some (gC (if(mc v' a).2≠0 then(VN,(mc v' a).2)else if(mc v' b).2≠0 then(VN,(mc v' b).2)else Za k (mc v' a).1 (mc v' b).1))
  generalize mc v' a=A at *
  generalize mc v' b=B at *
  obtain⟨A1,A2⟩:=A
  obtain⟨B1,B2⟩:=B
  have kl:=ka.len
  have kl2:=kb.len
  dsimp only at ka kb kl kl2 ⊢
  by_cases c:A2≠0
  ·rw[if_pos c,wm c,wm c]
   dsimp only
   rw[za (by simpa using c),z7]; rfl
  ·have:A2=0:=by simpa using c
   subst this
   rw[if_neg (by decide),jf]
   dsimp only
   rw[z8 (by rfl),z8 k7,zc ⟨by omega,by simp⟩,z6 hrb]
   by_cases c2:B2≠0
   ·rw[if_pos c2,wm c2,wm c2]
    dsimp only
    rw[za (by simpa using c2),z7]; rfl
   ·have:B2=0:=by simpa using c2
    subst this
    rw[if_neg (by decide),jf]
    dsimp only
    rw[z8 (by rfl),z6 (En k A1 B1 hk (uv ka.sz (by omega)) (uv kb.sz (by omega)) (by omega) (by omega)),z7]
end Go.AM.Lf
