/-
  Plain laws of the lifted program, part 2.
-/
import Derived.Test.YtgadkkagiejlkaaGreatDoorLf0
import Derived.Test.YtgadkkagiejlkaaGreatDoorAmA
import Derived.Test.YtgadkkagiejlkaaGreatDoorAmD
import Derived.Test.YtgadkkagiejlkaaGreatDoorQ0
import Derived.Test.YtgadkkagiejlkaaGreatDoorQ1
set_option linter.unusedVariables false
open Go.AM.T (Ws eA q9 qm xV z6 z8 za zc zl zm zq)
namespace Go.AM.Lf
open PL
abbrev KR:=zf→T (AM.Expr×zf)
noncomputable def lH (K:KR) (m1 m2:Int) (k1 k2:Int):(zf×AM.Expr×AM.Expr)→T ((zf×AM.Expr×AM.Expr)⊕((zf×AM.Expr×AM.Expr)))
 | (v,v1,v2) =>
  T.bind (xA v) fun(r3,r4) =>
  .ite (r3==m1)
   (T.bind (K (r4.1,((zr (r4.2.1+(1:Int))),(r4.2.2.1,(r4.2.2.2.1,(r4.2.2.2.2.1,(r4.2.2.2.2.2.1,()))))))) fun(r5,r6) =>
    T.bind (bJ k1 v2 r5) fun r7 =>
    .ret (.inl (r6,(v1,r7))))
   (.ite (r3==m2)
     (T.bind (K (r4.1,((zr (r4.2.1+(1:Int))),(r4.2.2.1,(r4.2.2.2.1,(r4.2.2.2.2.1,(r4.2.2.2.2.2.1,()))))))) fun(r8,r9) =>
      T.bind (bJ k2 v2 r8) fun Uy =>
      .ret (.inl (r9,(v1,Uy))))
     (.ret (.inr (r4,(v2,v2)))))
noncomputable def HU (K:KR) (m1 m2:Int) (k1 k2:Int) (r:zf):T (AM.Expr×zf) :=
 T.bind (K r) fun(r1,r2) =>
 T.bind (T.loop (lH K m1 m2 k1 k2) (r2,(zE,r1))) fun(v3,v4,v5) =>
 .ret (v4,v3)
theorem JK(ST:KR)(r:zf):qA ST r=HU (qE ST) 42 47 5 6 r:=rfl
theorem EL(ST:KR)(r:zf):vS ST r=HU (qA ST) 43 45 3 4 r:=rfl
theorem K2(s:zh)(hs:s.length≤1000000)(K:KR)(m1 m2:UInt8)(HX:m1≠0)(tW:m2≠0)(k1 k2:Int)(r:zh)(h:r <:+ s)(k b:Int)(hk:k≠0)(d:Nat)(l:Bool)(e:Expr) :
  (T.loop (lH K (m1.toNat:Int) (m2.toNat:Int) k1 k2) (xx s r k b d l,(zE,e))).run=some (xx s (wV r) k b d l,(e,e)):=by
 refine q9 ?_
 unfold lH
 dsimp only
 rw[z6 (sd s hs k b d l r h),if_neg hk]
 dsimp only
 have z:∀ m:UInt8,m≠0→((0:Int)==(m.toNat:Int))=false:=fun m hm=>by
  rw[show((0:Int)==(m.toNat:Int))=decide (0=m)from mY 0 m]
  simpa using fun e:0=m=>hm e.symm
 rw[za (z m1 HX),za (z m2 tW),z8]
theorem XK(s:zh)(hs:s.length≤1000000)(d:Nat)(K:KR)(Ks:Bool→zh→QR)(hK:∀ l r,r <:+ s→Ks l r≠.no→(K (xx s r 0 0 d l)).run=fG s d (Ks l r))(hx:∀ l r,r <:+ s→(Ks l r).ij s d)(m1 m2:UInt8)(HX:m1≠0)(tW:m2≠0)(hm:m1≠m2)(k1 k2:Int) :
  ∀ (n:Nat) (e:Expr) (r:zh) (l:Bool),r <:+ s→np Ks m1 m2 k1 k2 n e r l≠.no →
   match np Ks m1 m2 k1 k2 n e r l with
   | .no=>True
   | .ok e' r' l'=>(T.loop (lH K (m1.toNat:Int) (m2.toNat:Int) k1 k2) (xx s r 0 0 d l,(zE,e))).run=some (xx s r' 0 0 d l',(e',e'))
   | .er k b x r' d' l'=>(T.loop (lH K (m1.toNat:Int) (m2.toNat:Int) k1 k2) (xx s r 0 0 d l,(zE,e))).run=some (xx s r' k ((qX s b:Nat):Int) d' l',(x,x))
 | 0,_,_,_,_,hn=>absurd rfl hn
 | n+1,e,r,l,h,hn=>by
  have ht:=sd s hs 0 0 d l r h
  rw[if_pos rfl]at ht
  have hk:=(wD r).trans h
  have u7:∀ c:UInt8,qu [m1,m2] r=none→Sv (wV r)=(c.toNat:Int)→c≠m1∧c≠m2:=by
   intro c q hc
   unfold qu at q
   cases w:wV r with
   | nil =>
    rw[w]at hc
    have:c=0:=by
     have h0:((c.toNat:Int))=0:=hc.symm
     have:=mY c 0
     rw[show((c.toNat:Int)==((0:UInt8).toNat:Int))=true by simp; omega]at this
     exact of_decide_eq_true this.symm
    subst this
    exact⟨fun h=>HX h.symm,fun h=>tW h.symm⟩
   | cons c' q' =>
    rw[w]at hc q
    have Yb:c'=c:=by
     have hc:(c'.toNat:Int)=(c.toNat:Int):=hc
     have:=mY c' c
     rw[show((c'.toNat:Int)==(c.toNat:Int))=true by simp; omega]at this
     exact of_decide_eq_true this.symm
    subst Yb
    dsimp only at q
    split at q
    ·cases q
    ·rename_i h2
     simp at h2
     exact h2
  unfold np at hn ⊢
  cases q:qu [m1,m2] r with
  | none =>
   dsimp only
   refine q9 ?_
   unfold lH
   dsimp only
   rw[z6 ht]
   dsimp only
   obtain⟨c,hc⟩:∃ c:UInt8,Sv (wV r)=(c.toNat:Int):=by
    cases wV r with
    | nil=>exact⟨0,rfl⟩
    | cons c _=>exact⟨c,rfl⟩
   obtain⟨n1,n2⟩:=u7 c q hc
   rw[hc,za (by rw[mY]; exact decide_eq_false n1),za (by rw[mY]; exact decide_eq_false n2),z8]
  | some x =>
   obtain⟨c,q'⟩:=x
   rw[q]at hn
   dsimp only at hn ⊢
   have NF:=kv q
   rw[NF.2.2]at ht hk
   have hq:=xR hk
   have nL:=hK l q' hq
   have rA:=hx l q' hq
   have Da:c=m1∨c=m2:=by simpa using NF.2.1
   have step:∀ e2 R2,(K (xx s q' 0 0 d l)).run=some (e2,R2)→(lH K (m1.toNat:Int) (m2.toNat:Int) k1 k2 (xx s r 0 0 d l,(zE,e))).run=some (.inl (R2,(zE,xa (if c=m1 then k1 else k2) [e,e2]))):=by
    intro e2 R2 yF
    unfold lH
    dsimp only
    rw[z6 ht]
    dsimp only
    rw[bX 0 0 d l hk hs]
    show(T.ite ((c.toNat:Int)==(m1.toNat:Int)) _ (T.ite ((c.toNat:Int)==(m2.toNat:Int)) _ _)).run=_
    rw[mY,mY]
    by_cases hc:c=m1
    ·rw[if_pos hc,zc (decide_eq_true hc),z6 yF]
     rfl
    ·have h2:c=m2:=by rcases Da with h | h; exact absurd h hc; exact h
     rw[if_neg hc,za (decide_eq_false hc),zc (decide_eq_true h2),z6 yF]
     rfl
   cases z:Ks l q' with
   | no=>rw[z]at hn; exact absurd rfl hn
   | er k b x r' d' l' =>
    rw[z]at nL rA
    have nL:=nL (by simp)
    dsimp only
    rw[xV (step _ _ nL)]
    exact K2 s hs K m1 m2 HX tW k1 k2 r' rA.2.2.1 k _ rA.1 d' l' _
   | ok e2 r2 l2 =>
    rw[z]at nL hn rA
    have nL:=nL (by simp)
    dsimp only at hn ⊢
    rw[xV (step _ _ nL)]
    exact XK s hs d K Ks hK hx m1 m2 HX tW hm k1 k2 n _ r2 l2 rA hn
theorem XQ(s:zh)(hs:s.length≤1000000)(d:Nat)(K:KR)(Ks:Bool→zh→QR)(hK:∀ l r,r <:+ s→Ks l r≠.no→(K (xx s r 0 0 d l)).run=fG s d (Ks l r))(hx:∀ l r,r <:+ s→(Ks l r).ij s d)(m1 m2:UInt8)(HX:m1≠0)(tW:m2≠0)(hm:m1≠m2)(k1 k2:Int)
  (n:Nat) (l:Bool) (r:zh) (h:r <:+ s) (hn:Vt Ks m1 m2 k1 k2 n l r≠.no):(HU K (m1.toNat:Int) (m2.toNat:Int) k1 k2 (xx s r 0 0 d l)).run=fG s d (Vt Ks m1 m2 k1 k2 n l r):=by
 have nL:=hK l r h
 have rA:=hx l r h
 unfold HU
 unfold Vt at hn ⊢
 cases z:Ks l r with
 | no=>rw[z]at hn; exact absurd rfl hn
 | er k b x r' d' l' =>
  rw[z]at nL rA
  rw[z6 (nL (by simp))]
  dsimp only
  rw[z6 (K2 s hs K m1 m2 HX tW k1 k2 r' rA.2.2.1 k _ rA.1 d' l' _)]
  rfl
 | ok e r' l' =>
  rw[z]at nL hn rA
  have nL:=nL (by simp)
  dsimp only at hn ⊢
  have hl:=XK s hs d K Ks hK hx m1 m2 HX tW hm k1 k2 n e r' l' rA hn
  rw[z6 nL]
  dsimp only
  cases w:np Ks m1 m2 k1 k2 n e r' l' with
  | no=>exact absurd w hn
  | er k b x r2 d2 l2 =>
   rw[w]at hl
   dsimp only at hl
   rw[z6 hl]
   rfl
  | ok e2 r2 l2 =>
   rw[w]at hl
   dsimp only at hl
   rw[z6 hl]
   rfl
theorem Us(s:zh)(hs:s.length≤1000000)(FT ST:KR)(F S:Nat→Bool→zh→QR)
  (hF:∀ d l r,d≤31→r <:+ s→F d l r≠.no→(FT (xx s r 0 0 d l)).run=fG s d (F d l r)) (hS:∀ d l r,d≤31→r <:+ s→S d l r≠.no→(ST (xx s r 0 0 d l)).run=fG s d (S d l r))
  (xF:∀ d l r,d≤31→r <:+ s→(F d l r).ij s d) (xS:∀ d l r,d≤31→r <:+ s→(S d l r).ij s d) (d:Nat) (l:Bool) (r:zh) (hd:d≤31) (h:r <:+ s) (hn:Ku F S d l r≠.no):(xM FT ST (xx s r 0 0 d l)).run=fG s d (Ku F S d l r):=by
 have ht:=sd s hs 0 0 d l r h
 rw[if_pos rfl]at ht
 have hk:=(wD r).trans h
 unfold xM
 unfold Ku at hn ⊢
 have down:∀ (q:zh) (k b:Int) (d':Nat) (l':Bool),1≤d'→d'≤1000→(((xx s q k b d' l').1,((xx s q k b d' l').2.1,((xx s q k b d' l').2.2.1,((xx s q k b d' l').2.2.2.1,((zr ((xx s q k b d' l').2.2.2.2.1-(1:Int))),((xx s q k b d' l').2.2.2.2.2.1,())))))):zf)=xx s q k b (d'-1) l':=by
  intro q k b d' l' h1 h2
  rw[OQ,zJ (by omega) (by omega),show(d':Int)-1=((d'-1:Nat):Int) by omega]
  rfl
 rw[z6 ht]
 dsimp only
 cases e:wV r with
 | nil =>
  have h1:(vf (Sv [])).run=some false:=rfl
  have h2:(xH (Sv [])).run=some false:=rfl
  rw[za (by rfl),za (by rfl),z6 h1,zm,z6 h2,zm,z6 (kG _ _ _ _ _ _ _),if_pos rfl]
  rfl
 | cons c q =>
  rw[e]at hn hk
  have hq:=xR hk
  dsimp only at hn ⊢
  have hw:=Kc s hs hk d hd l
  rw[show Sv (c::q)=(c.toNat:Int)from rfl,show((c.toNat:Int)==45)=decide (c=45)from mY c 45,show((c.toNat:Int)==40)=decide (c=40)from mY c 40]
  by_cases X5:c=45
  ·rw[if_pos X5]at hn ⊢
   rw[zc (decide_eq_true X5),z6 hw]
   by_cases c31:31≤d
   ·rw[if_pos c31,if_pos c31]; rfl
   ·rw[if_neg c31]at hn
    rw[if_neg c31,if_neg c31]
    dsimp only
    rw[za (by rfl)]
    have hf:=hF (d+1) l q (by omega) hq
    have xf:=xF (d+1) l q (by omega) hq
    cases z:F (d+1) l q with
    | no=>rw[z]at hn; exact absurd rfl hn
    | er k b x r' d' l' =>
     rw[z]at hf xf
     rw[z6 (hf (by simp))]
     dsimp only
     rw[z8,down _ _ _ _ _ (by have:=xf.2.2.2.1; omega) xf.2.2.2.2]
     rfl
    | ok e2 r2 l2 =>
     rw[z]at hf
     rw[z6 (hf (by simp))]
     dsimp only
     rw[z8,down _ _ _ _ _ (by omega) (by omega)]
     rfl
  ·rw[if_neg X5]at hn ⊢
   rw[za (decide_eq_false X5)]
   by_cases QY:c=40
   ·rw[if_pos QY]at hn ⊢
    rw[zc (decide_eq_true QY),z6 hw]
    by_cases c31:31≤d
    ·rw[if_pos c31,if_pos c31]; rfl
    ·rw[if_neg c31]at hn
     rw[if_neg c31,if_neg c31]
     dsimp only
     rw[za (by rfl)]
     have hf:=hS (d+1) l q (by omega) hq
     have xf:=xS (d+1) l q (by omega) hq
     cases z:S (d+1) l q with
     | no=>rw[z]at hn; exact absurd rfl hn
     | er k b x r' d' l' =>
      rw[z]at hf xf
      rw[z6 (hf (by simp))]
      dsimp only
      have Ny:=Wn s hs k ((qX s b:Nat):Int) d' l' r' xf.2.2.1
      rw[if_neg xf.1]at Ny
      rw[z6 Ny]
      dsimp only
      rw[zc (by rfl),z6 (kG _ _ _ _ _ _ _),if_neg xf.1]
      rfl
     | ok e2 r2 l2 =>
      rw[z]at hf xf
      rw[z6 (hf (by simp))]
      dsimp only
      have Ny:=Wn s hs 0 0 (d+1) l2 r2 xf
      rw[if_pos rfl]at Ny
      rw[z6 Ny]
      cases w:qu [41] r2 with
      | none =>
       dsimp only
       rw[zc (by rfl),z6 (kG _ _ _ _ _ _ _),if_pos rfl]
       rfl
      | some x =>
       obtain⟨c',q'⟩:=x
       dsimp only
       rw[za (by rfl),z8,down _ _ _ _ _ (by omega) (by omega)]
       rfl
   ·rw[if_neg QY]at hn ⊢
    rw[za (decide_eq_false QY),z6 (Jf c)]
    cases hD:xY c with
    | true =>
     rw[if_pos rfl,zl]
     have nP:=Kr s hs d l (c::q) hk (by rw[List.takeWhile_cons_of_pos hD]; simp)
     cases z:UI d (c::q) l with
     | no =>
      exfalso
      rw[if_pos hD,z]at hn
      exact hn rfl
     | er k b x r' d' l'=>rw[z]at nP; rw[z6 nP]; rfl
     | ok e2 r2 l2=>rw[z]at nP; rw[z6 nP]; rfl
    | false =>
     rw[if_neg (by simp),zm]
     have h1:(xH (c.toNat:Int)).run=some (ru c):=rfl
     rw[z6 h1]
     cases hL:ru c with
     | true =>
      rw[if_pos rfl,zl]
      have MD:=DD s hs d l (c::q) hk
      cases z:J6 d (c::q) l with
      | no=>exfalso; unfold J6 at z; split at z<;>cases z
      | er k b x r' d' l'=>rw[z]at MD; rw[z6 MD]; rfl
      | ok e2 r2 l2=>rw[z]at MD; rw[z6 MD]; rfl
     | false =>
      rw[if_neg (by simp),zm,z6 (kG _ _ _ _ _ _ _),if_pos rfl]
      rfl
theorem mz{s:zh}{d:Nat}{R:QR}(h:R≠.no):∃ y,fG s d R=some y:=by
 cases R with
 | no=>exact absurd rfl h
 | er=>exact⟨_,rfl⟩
 | ok=>exact⟨_,rfl⟩
theorem Kg(s:zh)(hs:s.length≤1000000)(ST:KR)(N:Nat)(hS:∀ m,m≤N→∀ d l r,d≤31→r <:+ s→qS m d l r≠.no→(ST (xx s r 0 0 d l)).run=fG s d (qS m d l r))
  (n:Nat) (hn:n≤N+1) (d:Nat) (l:Bool) (r:zh) (hd:d≤31) (h:r <:+ s) (uq:qF n d l r≠.no):(qE ST (xx s r 0 0 d l)).run=fG s d (qF n d l r):=by
 unfold qE
 obtain⟨y,hy⟩:=mz (s:=s) (d:=d) uq
 rw[hy]
 refine T.Za (fun n x y=>n≤N+1∧∃ d l r,d≤31∧r <:+ s∧x=xx s r 0 0 d l∧qF n d l r≠.no∧fG s d (qF n d l r)=some y) (fun x y => ?_) (fun n x y hx g hg => ?_) (n:=n) ⟨hn,d,l,r,hd,h,rfl,uq,hy⟩
 ·rintro⟨_,d,l,r,_,_,_,h,_⟩
  exact h (by unfold qF; rfl)
 ·obtain⟨hn,d,l,r,hd,h,rfl,uq,hy⟩:=hx
  rw[← hy]
  unfold qF at uq ⊢
  have hgF:∀ d l r,d≤31→r <:+ s→qF n d l r≠.no→(g (xx s r 0 0 d l)).run=fG s d (qF n d l r):=by
   intro d l r hd h uq
   obtain⟨y,hy⟩:=mz (s:=s) (d:=d) uq
   rw[hy]
   exact hg _ _ ⟨by omega,d,l,r,hd,h,rfl,uq,hy⟩
  exact Us s hs (fun y0=>g y0) ST (qF n) (qS n) hgF (hS n (by omega)) (rQ s n).1 (rQ s n).2.2 d l r hd h uq
theorem Vo(s:zh)(hs:s.length≤1000000)(ST:KR)(N:Nat)(hS:∀ m,m≤N→∀ d l r,d≤31→r <:+ s→qS m d l r≠.no→(ST (xx s r 0 0 d l)).run=fG s d (qS m d l r))
  (n:Nat) (hn:n≤N+1) (d:Nat) (l:Bool) (r:zh) (hd:d≤31) (h:r <:+ s) (uq:qP n d l r≠.no):(qA ST (xx s r 0 0 d l)).run=fG s d (qP n d l r):=by
 cases n with
 | zero=>exact absurd (by unfold qP; rfl) uq
 | succ n =>
  unfold qP at uq ⊢
  rw[JK]
  exact XQ s hs d (qE ST) (qF n d) (fun l r h uq=>Kg s hs ST N hS n (by omega) d l r hd h uq) (fun l r h=>(rQ s n).1 d l r hd h) 42 47 (by decide) (by decide) (by decide) 5 6 n l r h uq
theorem Ey(s:zh)(hs:s.length≤1000000)(n:Nat)(d:Nat)(l:Bool)(r:zh)(hd:d≤31)(h:r <:+ s)(uq:qS n d l r≠.no):(wE (xx s r 0 0 d l)).run=fG s d (qS n d l r):=by
 unfold wE
 obtain⟨y,hy⟩:=mz (s:=s) (d:=d) uq
 rw[hy]
 refine T.Za (fun n x y=>∃ m,m≤n∧∃ d l r,d≤31∧r <:+ s∧x=xx s r 0 0 d l∧qS m d l r≠.no∧fG s d (qS m d l r)=some y) (fun x y => ?_) (fun n x y hx g hg => ?_) (n:=n) ⟨n,Nat.le_refl _,d,l,r,hd,h,rfl,uq,hy⟩
 ·rintro⟨m,hm,d,l,r,_,_,_,h,_⟩
  have:m=0:=by omega
  subst this
  exact h (by unfold qS; rfl)
 ·obtain⟨m,hm,d,l,r,hd,h,rfl,uq,hy⟩:=hx
  rw[← hy]
  cases m with
  | zero=>exact absurd (by unfold qS; rfl) uq
  | succ m =>
   have NM:∀ k,k≤m→∀ d l r,d≤31→r <:+ s→qS k d l r≠.no→(g (xx s r 0 0 d l)).run=fG s d (qS k d l r):=by
    intro k hk d l r hd h uq
    obtain⟨y,hy⟩:=mz (s:=s) (d:=d) uq
    rw[hy]
    exact hg _ _ ⟨k,by omega,d,l,r,hd,h,rfl,uq,hy⟩
   unfold qS at uq ⊢
   rw[EL]
   exact XQ s hs d (qA fun y0=>g y0) (qP m d) (fun l r h uq=>Vo s hs (fun y0=>g y0) m NM m (by omega) d l r hd h uq) (fun l r h=>(rQ s m).2.1 d l r hd h) 43 45 (by decide) (by decide) (by decide) 3 4 m l r h uq
theorem HG(K:Bool→zh→PR)(m1 m2:UInt8)(k1 k2:Int):∀ (n:Nat) (e:Expr) (r:zh) (l:Bool) (e':Expr) (r':zh) (l':Bool),u9 K m1 m2 k1 k2 n e r l=.ok e' r' l'→wV r'=r'
 | 0,_,_,_,_,_,_,h=>by cases h
 | n+1,e,r,l,e',r',l',h=>by
  unfold u9 at h
  split at h
  ·cases h; exact Zh r
  ·rename_i c q ht
   cases z:K l q with
   | no=>rw[z]at h; cases h
   | er=>rw[z]at h; cases h
   | ok e2 q2 l2=>rw[z]at h; exact HG K m1 m2 k1 k2 n _ q2 l2 e' r' l' h
theorem Nj{z:Rat}{s:zh}{e:Expr}{r:zh}{l:Bool}(h:cT z s=.ok e r l):wV r=r:=by
 unfold cT pS rowP at h
 generalize 3*s.length+2=n at h
 cases w:pP z n 0 false s with
 | no=>rw[w]at h; cases h
 | er=>rw[w]at h; cases h
 | ok e2 q2 l2=>rw[w]at h; exact HG _ _ _ _ _ n _ _ _ _ _ _ h
theorem QP(s:zh)(hs:s.length≤90000):(yI s).run=some (eJ s):=by
 have uq:=Vb xW s
 have SO:=Wa xW s
 have hsP:=UE zF s
 have nM:(qS (3*s.length+3) 0 false s).rel false (cT zF s):=(Ig (3*s.length+3)).2.2 0 false s
 have MJ:=(rQ s (3*s.length+3)).2.2 0 false s (by omega) (List.suffix_refl s)
 have R8:qS (3*s.length+3) 0 false s≠.no:=by
  intro h
  rw[h]at nM
  cases w:cT zF s with
  | no=>exact uq w
  | er=>rw[w]at nM; exact nM
  | ok=>rw[w]at nM; exact nM
 have xQ:=Ey s (by omega) (3*s.length+3) 0 false s (by omega) (List.suffix_refl s) R8
 have e0:xx s s 0 0 0 false=(s,((0:Int),((0:Int),((0:Int),((0:Int),(false,())))))):=by unfold xx; rw[WO]; rfl
 rw[e0]at xQ
 -- an error is met
 have z08:∀ (k:Int) (b r:zh) (x:Expr) (d:Nat) (l:Bool),k≠0→(b <:+ s)→(r <:+ s)→(wE (s,((0:Int),((0:Int),((0:Int),((0:Int),(false,()))))))).run=some (x,xx s r k ((qX s b:Nat):Int) d l)→(yI s).run=some (zE,(((qX s b:Nat):Int),k)):=by
  intro k b r x d l hk hb hr h
  unfold yI
  rw[z6 h]
  dsimp only
  rw[z6 (cN s (by omega) k _ d l r hr)]
  rw[z6 (a:=(zE,(xx s (wV r) k ((qX s b:Nat):Int) d l,x))) (by rw[ny,za (by rw[show(k==(0:Int))=false by simpa using hk]; rfl),z8])]
  dsimp only
  rw[ny,OG,zc (by simpa using hk),z8]
 unfold eJ
 cases wP:cT zF s with
 | no=>exact absurd wP uq
 | er k b r d l =>
  rw[wP]at nM
  cases wQ:qS (3*s.length+3) 0 false s with
  | no=>exact absurd wQ R8
  | ok=>rw[wQ]at nM; exact nM.elim
  | er k' b' x r' d' l' =>
   rw[wQ]at nM xQ MJ
   obtain⟨rfl,rfl⟩:=nM
   rw[z08 k' b' r' x d' l' MJ.1 MJ.2.1 MJ.2.2.1 xQ]
   unfold J3 ft
   dsimp only
   rw[if_pos MJ.1]
 | ok e r l =>
  rw[wP]at nM hsP SO
  have EH:=Nj wP
  cases wQ:qS (3*s.length+3) 0 false s with
  | no=>exact absurd wQ R8
  | er k' b' x r' d' l' =>
   rw[wQ]at nM xQ MJ
   obtain⟨rfl,rfl,xh⟩:=nM
   rw[z08 2 b' r' x d' l' MJ.1 MJ.2.1 MJ.2.2.1 xQ]
   cases b' with
   | nil=>cases xh
   | cons c q =>
    unfold J3 ft
    dsimp only
    rw[if_pos (by decide)]
  | ok e' r' l' =>
   rw[wQ]at nM xQ
   obtain⟨rfl,rfl,hee⟩:=nM
   have xQ:(wE (s,((0:Int),((0:Int),((0:Int),((0:Int),(false,()))))))).run=some (e',xx s r' 0 0 0 l'):=xQ
   unfold yI
   rw[z6 xQ]
   dsimp only
   rw[z6 (cN s (by omega) 0 0 0 l' r' hsP),EH]
   cases r' with
   | cons c q =>
    have hp:=wG hsP
    rw[z6 (a:=(zE,(xx s (c::q) 2 ((qX s (c::q):Nat):Int) 0 l',e'))) (by rw[ny,vg,zc (by rw[gY hsP]; rfl),z6 (kG _ _ _ _ _ _ _),if_pos rfl,z8])]
    dsimp only
    rw[ny,OG,zc (by rfl),z8]
    unfold J3 ft
    dsimp only
    rw[if_pos (by decide)]
   | nil =>
    rw[z6 (a:=(zE,(xx s [] 0 0 0 l',e'))) (by rw[ny,vg,za (by rw[di]; rfl),z8])]
    dsimp only
    rw[ny,z0w,za (by rfl)]
    unfold J3 ft
    dsimp only
    rw[if_neg (by decide)]
    rw[z6 (a:=(decide (l'=true∨sn e=false),(zE,(xx s [] 0 0 0 l',e'))))]
    ·dsimp only
     by_cases c2:l'=true∨sn e=false
     ·rw[zc (decide_eq_true c2),z8,if_pos c2]
     ·rw[za (decide_eq_false c2),z8,if_neg c2]
      cases l' with
      | true=>exact absurd (.inl rfl) c2
      | false=>rw[(hee rfl).2]
    ·cases l' with
     | true=>rw[zl,z8]; simp
     | false =>
      obtain⟨_,rfl⟩:=hee rfl
      have h2:=SO.2
      have h3:=SO.1.2
      simp only[List.length_nil]at h2
      have hI:=ym e' SO.1.1 (by omega) (by omega)
      rw[zm,z6 hI,z8]
      cases sn e'<;>simp
def yw(a b:Rat):Bool:=((norm a).1==(norm b).1)&&(((norm a).2.1==(norm b).2.1)&&((norm a).2.2.1==(norm b).2.2.1))
theorem yP{a b:Rat}:yw a b=true↔norm a=norm b:=by
 unfold yw
 rw[Bool.and_eq_true,Bool.and_eq_true,beq_iff_eq,beq_iff_eq,beq_iff_eq]
 constructor
 ·rintro⟨h1,h2,h3⟩
  exact Prod.ext h1 (Prod.ext h2 (Prod.ext h3 rfl))
 ·intro h; rw[h]; exact⟨rfl,rfl,rfl⟩
mutual
def sameE:Expr→Expr→Bool
 | .mk k n s l,.mk k' n' s' l'=>(k==k')&&(zD s s'&&(yw n n'&&sameEs l l'))
def sameEs:List Expr→List Expr→Bool
 | [],[]=>true
 | a::r,b::r'=>sameE a b&&sameEs r r'
 | [],_::_=>false
 | _::_,[]=>false
end
theorem Qj:∀ (a b:List Expr),a.length≠b.length→sameEs a b=false
 | [],[],h=>absurd rfl h
 | _::r,_::r',h=>by
  show(sameE _ _&&sameEs r r')=false
  rw[Qj r r' (fun e=>h (by simp[e])),Bool.and_false]
 | [],_::_,_=>rfl
 | _::_,[],_=>rfl
theorem bD(s:zh):zD s s=true:=by rw[wI]; simp
mutual
theorem Qu:∀ (e:Expr),sameE e e=true
 | .mk k n s l=>by
  show((k==k)&&(zD s s&&(yw n n&&sameEs l l)))=true
  rw[bD,yP.2 rfl,tu l]; simp
theorem tu:∀ (l:List Expr),sameEs l l=true
 | []=>rfl
 | a::r=>by
  show(sameE a a&&sameEs r r)=true
  rw[Qu a,tu r]; rfl
end
theorem Fz(R:Int→T (Int⊕(Unit⊕Bool)))(a b:List Expr)(hl:a.length=b.length)
  (step:∀ k (h:k<a.length) (h':k<b.length),(R (k:Int)).run=some (if sameE a[k] b[k]=true then .inl ((k+1:Nat):Int)else .inr (.inr false)))
  (done:(R (a.length:Int)).run=some (.inr (.inl ()))):(T.loop R 0).run=some (if sameEs a b=true then .inl ()else .inr false):=by
 have key:∀ (m k:Nat),k+m=a.length→(T.loop R (k:Int)).run=some (if sameEs (a.drop k) (b.drop k)=true then .inl ()else .inr false):=by
  intro m
  induction m with
  | zero =>
   intro k hk
   have:k=a.length:=by omega
   subst this
   rw[List.drop_length,hl,List.drop_length]
   rw[hl]at done
   exact q9 done
  | succ m ih =>
   intro k hk
   have h1:k<a.length:=by omega
   have h2:k<b.length:=by omega
   rw[List.drop_eq_getElem_cons h1,List.drop_eq_getElem_cons h2]
   show _=some (if(sameE a[k] b[k]&&sameEs (a.drop (k+1)) (b.drop (k+1)))=true then _ else _)
   have st:=step k h1 h2
   cases q:sameE a[k] b[k]with
   | true =>
    rw[q,if_pos rfl]at st
    rw[xV st,Bool.true_and]
    exact ih (k+1) (by omega)
   | false =>
    rw[q,if_neg (by simp)]at st
    exact q9 st
 have:=key a.length 0 (by omega)
 simpa using this
theorem Xw(a b:Rat)(ha:jt a)(hb:jt b):(bg a b).run=some (yw a b):=by
 have na:=mG (k:=100) (by omega) ha
 have nb:=mG (k:=100) (by omega) hb
 unfold bg yw
 rw[z6 (dw a (dF ha (by omega))),z6 (dw b (dF hb (by omega)))]
 cases((norm a).1==(norm b).1)with
 | false=>rfl
 | true =>
  rw[zl,z6 (dU _ _ (by have:=na.2.2.1; omega)),Bool.true_and]
  cases((norm a).2.1==(norm b).2.1)with
  | false=>rfl
  | true=>rw[zl,z6 (dU _ _ (by have:=na.2.2.2; omega)),z8,Bool.true_and]
theorem YO(e:Expr):(Expr.kids e).length≤wo e:=by
 cases e with | mk k n s l =>
 have:=rl l
 show l.length≤1+vA l
 omega
theorem Xe(a b:Expr)(ha:allOk a)(hb:allOk b)(la:wo a≤1000000):(mq a b).run=some (sameE a b):=by
 unfold mq
 refine eA (fun x:Expr×Expr=>allOk x.1∧allOk x.2∧wo x.1≤1000000) (fun x=>wo x.1) (fun x=>sameE x.1 x.2) (fun x hx g hg => ?_) (x:=(a,b)) ⟨ha,hb,la⟩
 obtain⟨a,b⟩:=x
 obtain⟨ha,hb,la⟩:=hx
 dsimp only at ha hb la ⊢
 cases a with | mk k n s l =>
 cases b with | mk k' n' s' l' =>
 have hk:=YO (.mk k n s l)
 have hk:l.length≤wo (.mk k n s l):=hk
 unfold cO
 show _=some ((k==k')&&(zD s s'&&(yw n n'&&sameEs l l')))
 have head:((.ite (k != k') (.ret true) (.ite (!(zD s s')) (.ret true) (T.bind (bg n n') fun r=>.ite (!r) (.ret true) (.ret ((Nat.cast (List.length l):Int) != (Nat.cast (List.length l'):Int)))))):T Bool).run=some (!((k==k')&&(zD s s'&&(yw n n'&&((l.length:Int)==(l'.length:Int)))))):=by
  rw[bne]
  cases(k==k')with
  | false=>rfl
  | true =>
   rw[za (by rfl)]
   cases zD s s' with
   | false=>rfl
   | true =>
    rw[za (by rfl),z6 (Xw n n' ha.1 hb.1)]
    cases yw n n' with
    | false=>rfl
    | true=>rw[za (by rfl),z8]; rfl
 show(T.bind (.ite (k != k') (.ret true) (.ite (!(zD s s')) (.ret true) (T.bind (bg n n') fun r=>.ite (!r) (.ret true) (.ret ((Nat.cast (List.length l):Int) != (Nat.cast (List.length l'):Int)))))) _).run=_
 rw[z6 head]
 cases q:((k==k')&&(zD s s'&&(yw n n'&&((l.length:Int)==(l'.length:Int)))))with
 | false =>
  rw[zc (by rfl),z8]
  congr 1
  revert q
  by_cases hl:l.length=l'.length
  ·rw[show((l.length:Int)==(l'.length:Int))=true by simp[hl]]
   cases(k==k')<;>cases zD s s'<;>cases yw n n'<;>simp
  ·rw[Qj l l' hl]
   simp
 | true =>
  simp only[Bool.and_eq_true,beq_iff_eq]at q
  obtain⟨q1,q2,q3,q4⟩:=q
  have hl:l.length=l'.length:=by omega
  rw[za (by rfl),q2,q3,show(k==k')=true by simpa using q1,Bool.true_and,Bool.true_and,Bool.true_and]
  have key:(pz (fun y0 y1=>g (y0,y1)) (.mk k n s l) (.mk k' n' s' l') 0).run=some (if sameEs l l'=true then .inl ()else .inr false):=by
   refine Fz (kT (fun y0 y1=>g (y0,y1)) (.mk k n s l) (.mk k' n' s' l')) l l' hl (fun j h h' => ?_) ?_
   ·have hr:=hg (l[j],l'[j]) ⟨dX ha.2 _ (List.getElem_mem h),dX hb.2 _ (List.getElem_mem h'),by have:=iO (List.getElem_mem h); have e:wo (.mk k n s l)=1+vA l:=rfl; show wo l[j]≤1000000; omega⟩ (by have:=iO (List.getElem_mem h); have e:wo (.mk k n s l)=1+vA l:=rfl; show wo l[j]<wo (.mk k n s l); omega)
    unfold kT
    dsimp only
    rw[show Expr.kids (.mk k n s l)=l from rfl,show Expr.kids (.mk k' n' s' l')=l' from rfl,zc (pA h),zq (vo h),zq (vo h'),lB h,lB h',z6 hr]
    cases sameE l[j] l'[j]with
    | false=>rfl
    | true=>rw[za (by rfl),z8,Lh j _ h (by omega),if_pos rfl]
   ·unfold kT
    dsimp only
    rw[show Expr.kids (.mk k n s l)=l from rfl,za (J9 _),z8]
  rw[z6 key]
  cases sameEs l l'<;>rfl
theorem Ok:zw 2=[2]:=by rw[y3 (by omega),show 2 / 4294967296=0 from rfl,qc]; rfl
theorem BF:yz [50]=(false,[2],[1],()):=by
 have e:nQ [50]=some (2,1):=by decide +kernel
 unfold yz
 rw[e]
 show wK _ 2 1=_
 unfold wK
 rw[if_neg (by decide),show 2 / Nat.gcd 2 1=2 from rfl,show 1 / Nat.gcd 2 1=1 from rfl,Ok,Fl]
 rfl
def sc(s:zh):Expr:=.mk 2 zF s []
def fN:Expr:=xa 4 [sc [97],xa 5 [xa 4 [sc [98],sc [99]],.mk 1 (yz [50]) [] []]]
theorem KZ:cT zF [97,45,40,98,45,99,41,42,50]=.ok fN [] false:=by kernel_rfl
theorem I5:norm (false,[2],[1],())=(false,[2],[1],()):=by
 rw[← BF]
 have e:nQ [50]=some (2,1):=by decide +kernel
 have:yz [50]=wK (List.isPrefixOf [45] [50]) 2 1:=by
  unfold yz
  rw[e]
  rfl
 rw[this]
 exact W2 _ _ _
theorem Og:uH (yz [50])=true:=by
 rw[BF]
 unfold uH eK yf trimB
 rw[I5]
 show(((zw 2==[2])&&((zw 1==[1])&&_))&&_)=true
 rw[Ok,Fl]
 rfl
theorem UZ:sn fN=true:=by
 have h:jM (.mk 1 (yz [50]) [] [])=true:=by
  unfold jM
  show((((0:Nat):Int)==fR 1)&&(if(1:Int)=1 then uH (yz [50])&&zD [] []else _))=true
  rw[if_pos rfl,Og]
  rfl
 have h2:uI 2 (.mk 1 (yz [50]) [] [])=true:=by
  show(decide (2<32)&&(jM (.mk 1 (yz [50]) [] [])&&kQ 3 []))=true
  rw[h]; rfl
 unfold sn fN
 show((true&&(true&&(true&&(uI 1 (xa 5 [xa 4 [sc [98],sc [99]],.mk 1 (yz [50]) [] []])&&true))))&&_)=true
 have h3:uI 1 (xa 5 [xa 4 [sc [98],sc [99]],.mk 1 (yz [50]) [] []])=true:=by
  show(true&&(true&&(true&&(uI 2 (.mk 1 (yz [50]) [] [])&&true))))=true
  rw[h2]; rfl
 rw[h3]
 rfl
theorem FC:prE fN=[97,32,45,32,40,98,32,45,32,99,41,32,42,32,50]:=by
 have h:prE (.mk 1 (yz [50]) [] [])=[50]:=by
  show(qC (norm (yz [50])).1 (nv (norm (yz [50])).2.1) (nv (norm (yz [50])).2.2.1) 0 61).1=[50]
  rw[BF,I5]
  show(qC false 2 1 0 61).1=[50]
  unfold qC
  rw[if_pos (by decide)]
  show VQ false++Wf (pr 2) 0=[50]
  unfold Wf pr
  rw[if_pos rfl,if_neg (by decide),eU (by decide),show 2 / 10=0 from rfl,dJ]
  rfl
 show vz _ (prE (sc [97]))++rf 4++vz _ (vz _ (vz _ (prE (sc [98]))++rf 4++vz _ (prE (sc [99])))++rf 5++vz _ (prE (.mk 1 (yz [50]) [] [])))=_
 rw[h]
 rfl
theorem KA:kt fN:=yS 4 (uB 2 zF _ xW (by simp)) (yS 5 (yS 4 (uB 2 zF _ xW (by simp)) (uB 2 zF _ xW (by simp))) (uB 1 _ [] (H0 _ (by simp)) (by simp)))
theorem CR(e:Expr)(ha:allOk e)(hs:hJ e≤1000000):(eR e).run=some (if sn e=true then prE e else[]):=by
 have hn:=Qo e
 unfold eR
 rw[z6 (XN e ha (by omega))]
 cases h:sn e with
 | false=>rfl
 | true =>
  have ho:uI 0 e=true:=by unfold sn at h; rw[Bool.and_eq_true]at h; exact h.1
  rw[za (by rfl),z6 (CO e 0 ho ha (by omega)),z8,if_pos rfl]
theorem ZF:ca.run=some true:=by
 have hp:eJ [97,45,40,98,45,99,41,42,50]=(fN,((0:Int),(0:Int))):=by
  unfold eJ
  rw[KZ]
  unfold J3 ft
  dsimp only
  rw[if_neg (by decide),UZ,if_neg (by simp)]
 have h1:=XO [97,45,40,98,45,99,41,42,50] (by decide)
 rw[hp]at h1
 have uj:hJ fN≤1000000:=by
  have e:hJ (.mk 1 (yz [50]) [] [])=3+0+8*1+8*1+0:=by rw[BF]; rfl
  have e2:hJ fN=3+0+0+0+(hJ (sc [97])+((3+0+0+0+(hJ (xa 4 [sc [98],sc [99]])+(hJ (.mk 1 (yz [50]) [] [])+0)))+0)):=rfl
  rw[e2,e]
  decide
 have h2:=CR fN KA.1 uj
 rw[UZ,if_pos rfl,FC]at h2
 unfold ca
 rw[z6 h1]
 dsimp only
 rw[zc (by rfl),zc (by rfl),z6 h2,z8]
 rfl
theorem bind_mono{R R':PR}{f f':Expr→zh→Bool→PR}(h:R≠.no→R'=R)(hf:∀ e r l,f e r l≠.no→f' e r l=f e r l)(hn:R.bind f≠.no):R'.bind f'=R.bind f:=by
 cases R with
 | no=>exact absurd rfl hn
 | er k b r d l=>rw[h (by simp)]; rfl
 | ok e r l=>rw[h (by simp)]; exact hf e r l hn
theorem bm{K K':Bool→zh→PR}(hK:∀ l q,K l q≠.no→K' l q=K l q)(m1 m2:UInt8)(k1 k2:Int):∀ (n n':Nat) (e:Expr) (r:zh) (l:Bool),n≤n'→u9 K m1 m2 k1 k2 n e r l≠.no→u9 K' m1 m2 k1 k2 n' e r l=u9 K m1 m2 k1 k2 n e r l
 | 0,_,_,_,_,_,h=>absurd rfl h
 | n+1,0,_,_,_,h,_=>by omega
 | n+1,n'+1,e,r,l,h,hn=>by
  unfold u9 at hn ⊢
  cases q:qu [m1,m2] r with
  | none=>rfl
  | some x =>
   obtain⟨c,q'⟩:=x
   rw[q]at hn
   exact bind_mono (hK l q') (fun e2 q2 l2 h2=>bm hK m1 m2 k1 k2 n n' _ q2 l2 (by omega) h2) hn
theorem We{K K':Bool→zh→PR}(hK:∀ l q,K l q≠.no→K' l q=K l q)(m1 m2:UInt8)(k1 k2:Int)(n n':Nat)(h:n≤n')(l:Bool)(r:zh)(hn:rowP K m1 m2 k1 k2 n l r≠.no):rowP K' m1 m2 k1 k2 n' l r=rowP K m1 m2 k1 k2 n l r :=
 bind_mono (hK l r) (fun e q l' h2=>bm hK m1 m2 k1 k2 n n' e q l' h h2) hn
theorem DB{z:Rat}{F S F' S':Nat→Bool→zh→PR}(hF:∀ d l q,F d l q≠.no→F' d l q=F d l q)(hS:∀ d l q,S d l q≠.no→S' d l q=S d l q)(d:Nat)(l:Bool)(s:zh)(hn:cj z F S d l s≠.no):cj z F' S' d l s=cj z F S d l s:=by
 unfold cj at hn ⊢
 cases e:wV s with
 | nil=>rfl
 | cons c r =>
  rw[e]at hn
  dsimp only at hn ⊢
  by_cases X5:c=45
  ·rw[if_pos X5]at hn ⊢
   rw[if_pos X5]
   by_cases c31:31≤d
   ·rw[if_pos c31,if_pos c31]
   ·rw[if_neg c31]at hn ⊢
    rw[if_neg c31]
    exact bind_mono (hF _ _ _) (fun _ _ _ _=>rfl) hn
  ·rw[if_neg X5]at hn ⊢
   rw[if_neg X5]
   by_cases QY:c=40
   ·rw[if_pos QY]at hn ⊢
    rw[if_pos QY]
    by_cases c31:31≤d
    ·rw[if_pos c31,if_pos c31]
    ·rw[if_neg c31]at hn ⊢
     rw[if_neg c31]
     exact bind_mono (hS _ _ _) (fun _ _ _ _=>rfl) hn
   ·rw[if_neg QY,if_neg QY]
theorem yr(z:Rat):∀ (n n':Nat),n≤n'→(∀ d l r,pF z n d l r≠.no→pF z n' d l r=pF z n d l r)∧(∀ d l r,pP z n d l r≠.no→pP z n' d l r=pP z n d l r)∧(∀ d l r,pS z n d l r≠.no→pS z n' d l r=pS z n d l r)
 | 0,_,_=>⟨fun _ _ _ h=>absurd (by unfold pF; rfl) h,fun _ _ _ h=>absurd (by unfold pP; rfl) h,fun _ _ _ h=>absurd (by unfold pS; rfl) h⟩
 | n+1,0,h=>by omega
 | n+1,n'+1,h=>by
  obtain⟨h1,h2,h3⟩:=yr z n n' (by omega)
  refine⟨fun d l r hn => ?_,fun d l r hn => ?_,fun d l r hn => ?_⟩
  ·unfold pF at hn ⊢; exact DB h1 h3 d l r hn
  ·unfold pP at hn ⊢; exact We (h1 d) _ _ _ _ n n' (by omega) l r hn
  ·unfold pS at hn ⊢; exact We (h2 d) _ _ _ _ n n' (by omega) l r hn
def SF(d:Nat)(l:Bool)(s:zh)(R:PR):Prop:=R≠.no∧∃ n,pF zF n d l s=R
def SP(d:Nat)(l:Bool)(s:zh)(R:PR):Prop:=R≠.no∧∃ n,pP zF n d l s=R
def SS(d:Nat)(l:Bool)(s:zh)(R:PR):Prop:=R≠.no∧∃ n,pS zF n d l s=R
def RP(d:Nat)(e:Expr)(r:zh)(l:Bool)(R:PR):Prop:=R≠.no∧∃ n m,u9 (pF zF n d) 42 47 5 6 m e r l=R
def RS(d:Nat)(e:Expr)(r:zh)(l:Bool)(R:PR):Prop:=R≠.no∧∃ n m,u9 (pP zF n d) 43 45 3 4 m e r l=R
theorem Bb{d:Nat}{l:Bool}{s:zh}{e:Expr}{q:zh}{l':Bool}{R:PR}(h1:SF d l s (.ok e q l'))(h2:RP d e q l' R):SP d l s R:=by
 obtain⟨_,n1,e1⟩:=h1
 obtain⟨hR,n2,m,e2⟩:=h2
 refine⟨hR,max (max n1 n2) m+1,?_⟩
 unfold pP rowP
 rw[(yr zF n1 (max (max n1 n2) m) (by omega)).1 d l s (by rw[e1]; simp),e1]
 show u9 _ _ _ _ _ _ e q l'=R
 rw[bm (fun l q h=>(yr zF n2 (max (max n1 n2) m) (by omega)).1 d l q h) 42 47 5 6 m (max (max n1 n2) m) e q l' (by omega) (by rw[e2]; exact hR),e2]
theorem FN{d:Nat}{l:Bool}{s:zh}{e:Expr}{q:zh}{l':Bool}{R:PR}(h1:SP d l s (.ok e q l'))(h2:RS d e q l' R):SS d l s R:=by
 obtain⟨_,n1,e1⟩:=h1
 obtain⟨hR,n2,m,e2⟩:=h2
 refine⟨hR,max (max n1 n2) m+1,?_⟩
 unfold pS rowP
 rw[(yr zF n1 (max (max n1 n2) m) (by omega)).2.1 d l s (by rw[e1]; simp),e1]
 show u9 _ _ _ _ _ _ e q l'=R
 rw[bm (fun l q h=>(yr zF n2 (max (max n1 n2) m) (by omega)).2.1 d l q h) 43 45 3 4 m (max (max n1 n2) m) e q l' (by omega) (by rw[e2]; exact hR),e2]
theorem Z0{d:Nat}{e:Expr}{r:zh}{l:Bool}(h:qu [42,47] r=none):RP d e r l (.ok e (wV r) l):=⟨by simp,0,1,by unfold u9; rw[h]⟩
theorem V4{d:Nat}{e:Expr}{r:zh}{l:Bool}(h:qu [43,45] r=none):RS d e r l (.ok e (wV r) l):=⟨by simp,0,1,by unfold u9; rw[h]⟩
theorem Ht{d:Nat}{e:Expr}{r:zh}{l:Bool}{c:UInt8}{q:zh}{e2:Expr}{q2:zh}{l2:Bool}{R:PR}(h:qu [42,47] r=some (c,q))(h1:SF d l q (.ok e2 q2 l2))(h2:RP d (xa (if c=42 then 5 else 6) [e,e2]) q2 l2 R):RP d e r l R:=by
 obtain⟨_,n1,e1⟩:=h1
 obtain⟨hR,n2,m,e3⟩:=h2
 refine⟨hR,max n1 n2,m+1,?_⟩
 unfold u9
 rw[h]
 dsimp only
 rw[(yr zF n1 (max n1 n2) (by omega)).1 d l q (by rw[e1]; simp),e1]
 show u9 _ _ _ _ _ _ _ q2 l2=R
 rw[bm (fun l q h=>(yr zF n2 (max n1 n2) (by omega)).1 d l q h) 42 47 5 6 m m _ q2 l2 (by omega) (by rw[e3]; exact hR),e3]
theorem Nz{d:Nat}{e:Expr}{r:zh}{l:Bool}{c:UInt8}{q:zh}{e2:Expr}{q2:zh}{l2:Bool}{R:PR}(h:qu [43,45] r=some (c,q))(h1:SP d l q (.ok e2 q2 l2))(h2:RS d (xa (if c=43 then 3 else 4) [e,e2]) q2 l2 R):RS d e r l R:=by
 obtain⟨_,n1,e1⟩:=h1
 obtain⟨hR,n2,m,e3⟩:=h2
 refine⟨hR,max n1 n2,m+1,?_⟩
 unfold u9
 rw[h]
 dsimp only
 rw[(yr zF n1 (max n1 n2) (by omega)).2.1 d l q (by rw[e1]; simp),e1]
 show u9 _ _ _ _ _ _ _ q2 l2=R
 rw[bm (fun l q h=>(yr zF n2 (max n1 n2) (by omega)).2.1 d l q h) 43 45 3 4 m m _ q2 l2 (by omega) (by rw[e3]; exact hR),e3]
theorem FW(m r:zh):qu m (wV r)=qu m r:=by unfold qu; rw[Zh]
theorem I6(K:Bool→zh→PR)(m1 m2:UInt8)(k1 k2:Int)(n:Nat)(e:Expr)(r:zh)(l:Bool):u9 K m1 m2 k1 k2 n e (wV r) l=u9 K m1 m2 k1 k2 n e r l:=by
 cases n with
 | zero=>rfl
 | succ n=>unfold u9; rw[FW,Zh]
theorem EO{d:Nat}{e:Expr}{r:zh}{l:Bool}{R:PR}(h:RS d e r l R):RS d e (wV r) l R:=by
 obtain⟨hR,n,m,e2⟩:=h
 exact⟨hR,n,m,by rw[I6,e2]⟩
theorem z0q{d:Nat}{l:Bool}{s s':zh}{R:PR}(h:SF d l s R)(e:wV s'=wV s):SF d l s' R:=by
 obtain⟨hR,n,e1⟩:=h
 cases n with
 | zero=>exact absurd (by rw[← e1]; unfold pF; rfl) hR
 | succ n =>
  refine⟨hR,n+1,?_⟩
  rw[← e1]
  unfold pF cj
  rw[e]
theorem z0b{d:Nat}{l:Bool}{s s':zh}{R:PR}(h:SP d l s R)(e:wV s'=wV s):SP d l s' R:=by
 obtain⟨hR,n,e1⟩:=h
 cases n with
 | zero=>exact absurd (by rw[← e1]; unfold pP; rfl) hR
 | succ n =>
  cases n with
  | zero=>exact absurd (by rw[← e1]; unfold pP rowP pF; rfl) hR
  | succ n =>
   refine⟨hR,n+2,?_⟩
   rw[← e1]
   have:pF zF (n+1) d l s'=pF zF (n+1) d l s:=by unfold pF cj; rw[e]
   unfold pP rowP
   rw[this]
theorem z1q{d:Nat}{l:Bool}{s s':zh}{R:PR}(h:SS d l s R)(e:wV s'=wV s):SS d l s' R:=by
 obtain⟨hR,n,e1⟩:=h
 cases n with
 | zero=>exact absurd (by rw[← e1]; unfold pS; rfl) hR
 | succ n =>
  refine⟨hR,n+1,?_⟩
  rw[← e1]
  have:pP zF n d l s'=pP zF n d l s:=by
   cases n with
   | zero=>unfold pP; rfl
   | succ n =>
    have:pF zF n d l s'=pF zF n d l s:=by
     cases n with
     | zero=>unfold pF; rfl
     | succ n=>unfold pF cj; rw[e]
    unfold pP rowP
    rw[this]
  unfold pS rowP
  rw[this]
theorem RZ{d:Nat}{l:Bool}{s r:zh}{e:Expr}{q:zh}{l':Bool}(hs:wV s=45::r)(hd:d<31)(h:SF (d+1) l r (.ok e q l')):SF d l s (.ok (xa 7 [e]) q l'):=by
 obtain⟨_,n,e1⟩:=h
 refine⟨by simp,n+1,?_⟩
 unfold pF cj
 rw[hs]
 dsimp only
 rw[if_pos rfl,if_neg (by omega),e1]
 rfl
theorem IN{d:Nat}{l:Bool}{s r:zh}{e:Expr}{q q':zh}{l':Bool}(hs:wV s=40::r)(hd:d<31)(h:SS (d+1) l r (.ok e q l'))(hq:wV q=41::q'):SF d l s (.ok e q' l'):=by
 obtain⟨_,n,e1⟩:=h
 refine⟨by simp,n+1,?_⟩
 have ht:qu [41] q=some (41,q'):=by unfold qu; rw[hq]; rfl
 unfold pF cj
 rw[hs]
 dsimp only
 rw[if_neg (by decide),if_pos rfl,if_neg (by omega),e1]
 show(match qu [41] q with | some (_,q')=>PR.ok e q' l' | none=>.er 2 (wV q) (wV q) (d+1) l')=_
 rw[ht]
theorem Pn{d:Nat}{l:Bool}{s r:zh}{c:UInt8}(hs:wV s=c::r)(hc:xY c=true):SF d l s (iC zF d (c::r) l):=by
 refine⟨Jc _ _ _ _,1,?_⟩
 have X5:c≠45:=by rintro rfl; revert hc; decide
 have QY:c≠40:=by rintro rfl; revert hc; decide
 unfold pF cj
 rw[hs]
 dsimp only
 rw[if_neg X5,if_neg QY,if_pos hc]
theorem z0l{c:UInt8}(h:ru c=true):xY c=false:=by
 unfold ru at h
 rw[Bool.and_eq_true,decide_eq_true_eq,decide_eq_true_eq]at h
 cases q:xY c with
 | false=>rfl
 | true=>have:=ba.1 q; omega
theorem RR{d:Nat}{l:Bool}{s r:zh}{c:UInt8}(hs:wV s=c::r)(hc:ru c=true):SF d l s (KK (c::r) l):=by
 refine⟨by unfold KK; simp,1,?_⟩
 have X5:c≠45:=by rintro rfl; revert hc; decide
 have QY:c≠40:=by rintro rfl; revert hc; decide
 unfold pF cj
 rw[hs]
 dsimp only
 rw[if_neg X5,if_neg QY,if_neg (by rw[z0l hc]; simp),if_pos hc]
theorem Rh{s:zh}{R:PR}(h:SS 0 false s R):cT zF s=R:=by
 obtain⟨hR,n,e⟩:=h
 have h2:=Vb xW s
 unfold cT at h2 ⊢
 have a:=(yr zF (3*s.length+3) (max n (3*s.length+3)) (by omega)).2.2 0 false s h2
 have b:=(yr zF n (max n (3*s.length+3)) (by omega)).2.2 0 false s (by rw[e]; exact hR)
 rw[← a,b,e]
def nJ:zh→Bool
 | []=>true
 | c::_ => !qT c && !(c==46)
theorem Rm{c:UInt8}(h:xY c=true):qT c=true:=by
 have:=ba.1 h
 unfold qT
 rw[decide_eq_true (by omega:(48:Int)≤(c.toNat:Int)),decide_eq_true (by omega:(c.toNat:Int)≤57)]
 simp
theorem Kt{q:zh}(h:nJ q=true):∀ c r,q=c::r→qT c=false∧c≠46:=by
 rintro c r rfl
 have h:(!qT c && !(c==46))=true:=h
 rw[Bool.and_eq_true]at h
 exact⟨by simpa using h.1,by simpa using h.2⟩
def cn(n:Rat):zh:=(qC (norm n).1 (nv (norm n).2.1) (nv (norm n).2.2.1) 0 61).1
theorem XW{n:Rat}(h:uH n=true):eK n=true∧n.1=false∧yf n=false∧(qC (norm n).1 (nv (norm n).2.1) (nv (norm n).2.2.1) 0 61).2=true:=by
 unfold uH at h
 simp only[Bool.and_eq_true,Bool.not_eq_true']at h
 exact⟨h.1,h.2.1,h.2.2.1,h.2.2.2⟩
theorem WH{n:Rat}(hn:jt n)(h:eK n=true):norm n=n:=(K8 n hn.1 hn.2.1).1 h
theorem o5{n:Rat}(hn:jt n)(h:uH n=true):yz (cn n)=norm n∧(cn n).length≤400∧∃ w,qD w=true∧w≠[]∧(cn n=w∨∃ p,qD p=true∧p≠[]∧cn n=w++46::p):=by
 obtain⟨h1,h2,h3,h4⟩:=XW h
 have hnn:=WH hn h1
 have uq:=mG (k:=100) (by omega) hn
 have hd:=pT n.1 (nv n.2.1) (nv n.2.2.1)
 have hd:nv (norm n).2.2.1≠0:=hd
 have hx:qC (norm n).1 (nv (norm n).2.1) (nv (norm n).2.2.1) 0 61=(cn n,true):=Prod.ext rfl h4
 have hl:(zw (nv (norm n).2.1)).length≤16:=by
  have:=zR uq.1
  unfold yf at h3
  simp only[Bool.or_eq_false_iff,decide_eq_false_iff_not]at h3
  omega
 have hp:=JJ (norm n) (Dv n) hd hl (cn n) hx
 have hlen:=XH n hn
 have hlen:(cn n).length≤6000:=hlen
 rw[da (cn n) (by omega)]at hp
 have hp1:(cn n).length≤400:=by
  by_cases c:400<(cn n).length
  ·rw[if_pos c]at hp
   injection hp with hp
   injection hp with _ hp
   exact absurd hp (by decide)
  ·omega
 refine⟨?_,hp1,?_⟩
 ·rw[if_neg (by omega)]at hp
  unfold yz
  cases w:nQ (cn n)with
  | none =>
   rw[w]at hp
   have h2:(2:Int)=0:=congrArg (fun x:Option (Rat×Int)=>match x with | some y=>y.2 | none=>5) hp
   exact absurd h2 (by decide)
  | some x =>
   rw[w]at hp
   injection hp with hp
   exact congrArg Prod.fst hp
 ·obtain⟨j,_,_,_,e⟩:=mH _ _ _ hd 61 0 _ hx
  rw[hnn,h2]at e
  have e:cn n=Wf (pr (nv n.2.1*10 ^ j / nv n.2.2.1)) j:=e
  by_cases hj:j=0
  ·subst hj
   refine⟨cn n,?_,?_,.inl rfl⟩
   ·rw[e]; unfold Wf; rw[if_pos rfl]; exact(pV _).1
   ·rw[e]; unfold Wf; rw[if_pos rfl]; exact Ow _
  ·obtain⟨w,p,e2,h5,h6,h7,h8,_,_⟩:=rE (pr (nv n.2.1*10 ^ j / nv n.2.2.1)) j hj (pV _).1
   exact⟨w,h5,h6,.inr ⟨p,h7,by rintro rfl; simp at h8; omega,by rw[e,e2]⟩⟩
theorem Co{n:Rat}(hn:jt n)(h:uH n=true):∃ c r,cn n=c::r∧xY c=true:=by
 obtain⟨_,_,w,h1,h2,h3⟩:=o5 hn h
 cases w with
 | nil=>exact absurd rfl h2
 | cons c w =>
  have hc:xY c=true:=by rw[wF,Bool.and_eq_true]at h1; exact h1.1
  rcases h3 with e | ⟨p,_,_,e⟩
  ·exact⟨c,w,e,hc⟩
  ·exact⟨c,w++46::p,e,hc⟩
theorem Cr{n:Rat}(hn:jt n)(h:uH n=true)(d:Nat)(l:Bool){q:zh}(hq:nJ q=true):iC zF d (cn n++q) l=.ok (.mk 1 (norm n) [] []) q l:=by
 obtain⟨ht,hlen,w,h1,h2,h3⟩:=o5 hn h
 have hs:=Kt hq
 have hs':∀ c r,q=c::r→xY c=false:=by
  intro c r e
  cases hc:xY c with
  | false=>rfl
  | true=>have:=(hs c r e).1; rw[Rm hc]at this; cases this
 have fin:∀ r,nC zF (cn n) r l=.ok (.mk 1 (norm n) [] []) r l:=fun r=>by
  unfold nC
  rw[if_neg (by omega),ht]
 rcases h3 with e | ⟨p,h4,h5,e⟩
 ·obtain⟨t1,t2⟩:=j5 (u:=cn n) (by rw[e]; exact h1) q hs'
  unfold iC
  rw[t1,t2]
  cases q with
  | nil=>exact fin _
  | cons c r =>
   dsimp only
   rw[if_neg (hs c r rfl).2]
   exact fin _
 ·have e2:cn n++q=w++46::(p++q):=by rw[e,List.append_assoc]; rfl
  obtain⟨t1,t2⟩:=j5 h1 (46::(p++q)) (fun c r z=>by cases z; decide)
  obtain⟨t3,t4⟩:=j5 h4 q hs'
  unfold iC
  rw[e2,t1,t2]
  dsimp only
  rw[if_pos rfl,t3,t4,if_neg h5,← e]
  exact fin _
theorem Wh:∀ (n:Nat) (s q:zh),s.length≤n→s.all qT=true→nJ q=true→vc qT n (s++q)=(s,q)
 | 0,[],q,_,_,_=>rfl
 | 0,_::_,_,h,_,_=>by simp at h
 | n+1,[],[],_,_,_=>rfl
 | n+1,[],c::q,_,_,hq=>by
  have:=(Kt hq c q rfl).1
  show(if qT c=true then _ else([],c::q))=_
  rw[if_neg (by rw[this]; simp)]
 | n+1,c::s,q,h,ha,hq=>by
  rw[List.all_cons,Bool.and_eq_true]at ha
  have ih:=Wh n s q (by simpa using h) ha.2 hq
  show(if qT c=true then(c::(vc qT n (s++q)).1,(vc qT n (s++q)).2)else _)=_
  rw[if_pos ha.1,ih]
theorem en{s:zh}(h:ui s=true):s.length≤24∧s.all qT=true∧∃ c r,s=c::r∧ru c=true:=by
 have h2:=Ga h
 refine⟨h2.1,h2.2,?_⟩
 cases s with
 | nil=>cases h
 | cons c r =>
  unfold ui at h
  dsimp only at h
  rw[Bool.and_eq_true,Bool.and_eq_true]at h
  exact⟨c,r,rfl,h.2.1⟩
theorem Cw{s:zh}(h:ui s=true)(l:Bool){q:zh}(hq:nJ q=true):KK (s++q) l=.ok (.mk 2 zF s []) q l:=by
 obtain⟨h1,h2,_⟩:=en h
 unfold KK
 rw[Wh 24 s q h1 h2 hq]
mutual
/-- The same expression,as it is read. -/
def canE:Expr→Expr
 | .mk k n s l=>if k=1 then .mk 1 (norm n) [] []else if k=2 then .mk 2 zF s []else xa k (canL l)
def canL:List Expr→List Expr
 | []=>[]
 | e::r=>canE e::canL r
end
theorem cU{c:UInt8}{r:zh}(h:c≠32):wV (c::r)=c::r:=by unfold wV; rw[if_neg h]
theorem Qf(r:zh):wV (32::r)=wV r:=by conv=>lhs; unfold wV; rw[if_pos rfl]
theorem RJ{c:UInt8}(h:xY c=true):c≠32:=by rintro rfl; revert h; decide
theorem R6{c:UInt8}(h:ru c=true):c≠32:=by rintro rfl; revert h; decide
theorem VE{d:Nat}{k:Int}{n:Rat}{s:zh}{l:List Expr}(ho:uI d (.mk k n s l)=true) :
  (k=1∧l=[]∧uH n=true∧s=[])∨(k=2∧l=[]∧ui s=true∧xT n=true)∨(k=7∧(∃ a,l=[a]∧uI (d+1) a=true)∧xT n=true∧s=[])∨((k=3∨k=4∨k=5∨k=6)∧(∃ a b,l=[a,b]∧uI (d+1) a=true∧uI (d+1) b=true)∧xT n=true∧s=[]):=by
 obtain⟨hk,hl⟩:=lq ho
 have ho:(decide (d<32)&&(jM (.mk k n s l)&&kQ (d+1) l))=true:=ho
 simp only[Bool.and_eq_true]at ho
 have QZ:=ho.2.1
 unfold jM at QZ
 rw[Bool.and_eq_true]at QZ
 have hb:=QZ.2
 clear QZ
 rw[show Expr.kind (.mk k n s l)=k from rfl,show Expr.num (.mk k n s l)=n from rfl,show Expr.name (.mk k n s l)=s from rfl]at hb
 have ER:(l.length:Int)=0→l=[]:=fun h=>List.eq_nil_of_length_eq_zero (by omega)
 by_cases h1:k=1
 ·rw[if_pos h1,Bool.and_eq_true,wI,decide_eq_true_eq]at hb
  refine .inl ⟨h1,ER ?_,hb.1,hb.2⟩
  rw[hk]; unfold fR; rw[if_pos (.inl h1)]
 ·rw[if_neg h1]at hb
  by_cases h2:k=2
  ·rw[if_pos h2,Bool.and_eq_true]at hb
   refine .inr (.inl ⟨h2,ER ?_,hb.2,hb.1⟩)
   rw[hk]; unfold fR; rw[if_pos (.inr h2)]
  ·rw[if_neg h2,Bool.and_eq_true,wI,decide_eq_true_eq]at hb
   rcases V0 hk h1 h2 with⟨h7,a,rfl⟩ | ⟨OZ,a,b,rfl⟩
   ·have hl:(uI (d+1) a&&kQ (d+1) [])=true:=hl
    rw[Bool.and_eq_true]at hl
    exact .inr (.inr (.inl ⟨h7,⟨a,rfl,hl.1⟩,hb.1,hb.2⟩))
   ·have hl:(uI (d+1) a&&(uI (d+1) b&&kQ (d+1) []))=true:=hl
    rw[Bool.and_eq_true,Bool.and_eq_true]at hl
    exact .inr (.inr (.inr ⟨OZ,⟨a,b,rfl,hl.1,hl.2.1⟩,hb.1,hb.2⟩))
theorem U5{d:Nat}{e:Expr}(h:uI d e=true):d<32:=by
 cases e with | mk k n s l =>
 have h:(decide (d<32)&&(jM (.mk k n s l)&&kQ (d+1) l))=true:=h
 rw[Bool.and_eq_true,decide_eq_true_eq]at h
 exact h.1
structure X2(e:Expr)(p:Nat):Prop where
 sum:∀ q l R,nJ q=true→qu [42,47] q=none→RS p (canE e) q l R→SS p l (prE e++q) R
 pro:2≤zy e.kind→∀ q l R,nJ q=true→RP p (canE e) q l R→SP p l (prE e++q) R
 fac:3≤zy e.kind→∀ q l,nJ q=true→SF p l (prE e++q) (.ok (canE e) q l)
theorem X2.Gp{e:Expr}{p:Nat}(h:∀ q l,nJ q=true→SF p l (prE e++q) (.ok (canE e) q l)):X2 e p where
 sum q l R hq ht hR:=FN (Bb (h q l hq) (Z0 ht)) (EO hR)
 pro _ q l R hq hR:=Bb (h q l hq) hR
 fac _ q l hq:=h q l hq
theorem X2.Fi{e:Expr}{p:Nat}(hb:zy e.kind≤2)(h:∀ q l R,nJ q=true→RP p (canE e) q l R→SP p l (prE e++q) R):X2 e p where
 sum q l R hq ht hR:=FN (h q l _ hq (Z0 ht)) (EO hR)
 pro _ q l R hq hR:=h q l R hq hR
 fac h3:=by omega
theorem X2.par{e:Expr}{p:Nat}(h:X2 e (p+1))(hp:p<31)(q:zh)(l:Bool):SF p l ([40]++prE e++[41]++q) (.ok (canE e) q l):=by
 have hs:wV ([40]++prE e++[41]++q)=40::(prE e++(41::q)):=by
  rw[show[40]++prE e++[41]++q=40::(prE e++(41::q)) by simp,cU (by decide)]
 have R1:wV (41::q)=41::q:=cU (by decide)
 have t1:qu [42,47] (41::q)=none:=by unfold qu; rw[R1]; rfl
 have t2:qu [43,45] (41::q)=none:=by unfold qu; rw[R1]; rfl
 exact IN hs hp (h.sum (41::q) l _ rfl t1 (V4 t2)) (by rw[R1,R1])
theorem Br{a:Expr}{p:Nat}(h0:3≤zy a.kind→X2 a p)(h1:zy a.kind<3→X2 a (p+1)∧p<31)(q:zh)(l:Bool)(hq:nJ q=true):SF p l (vz (decide (zy a.kind<3)) (prE a)++q) (.ok (canE a) q l):=by
 by_cases c:zy a.kind<3
 ·rw[decide_eq_true c]
  exact(h1 c).1.par (h1 c).2 q l
 ·rw[decide_eq_false c]
  exact(h0 (by omega)).fac (by omega) q l hq
theorem Hi{a:Expr}{p:Nat}(h0:2≤zy a.kind→X2 a p)(h1:zy a.kind<2→X2 a (p+1)∧p<31)(q:zh)(l:Bool)(R:PR)(hq:nJ q=true)(hR:RP p (canE a) q l R):SP p l (vz (decide (zy a.kind<2)) (prE a)++q) R:=by
 by_cases c:zy a.kind<2
 ·rw[decide_eq_true c]
  exact Bb ((h1 c).1.par (h1 c).2 q l) hR
 ·rw[decide_eq_false c]
  exact(h0 (by omega)).pro (by omega) q l R hq hR
theorem EI(k:Int):1≤zy k:=by unfold zy; (repeat' split)<;>omega
theorem Ql{d:Nat}{e:Expr}(ho:uI d e=true)(hb:zy e.kind<3):d+1<32:=by
 cases e with | mk k n s l =>
 have hb:zy k<3:=hb
 rcases VE ho with⟨rfl,_⟩ | ⟨rfl,_⟩ | ⟨rfl,_⟩ | ⟨_,⟨a,b,_,J5,_⟩,_⟩
 ·exact absurd hb (by decide)
 ·exact absurd hb (by decide)
 ·exact absurd hb (by decide)
 ·exact U5 J5
def Xi(d:Nat)(e:Expr):Nat:=if zy e.kind<3 then d+1 else d
theorem RN:∀ (m:Nat) (e:Expr) (d p:Nat),wo e≤m→uI d e=true→allOk e→p≤Xi d e→X2 e p:=by
 intro m
 induction m with
 | zero=>intro e d p hm; have:=pq e; omega
 | succ m ih =>
  intro e d p hm ho ha hp
  cases e with | mk k n s l =>
  have hn:=ha.1
  rcases VE ho with⟨rfl,rfl,h1,rfl⟩ | ⟨rfl,rfl,h1,h2⟩ | ⟨rfl,⟨a,rfl,J5⟩,h1,rfl⟩ | ⟨hk,⟨a,b,rfl,J5,hob⟩,h1,rfl⟩
  ·refine X2.Gp fun q l hq => ?_
   show SF p l (cn n++q) (.ok (.mk 1 (norm n) [] []) q l)
   obtain⟨c,r,e,hc⟩:=Co hn h1
   have hs:wV (cn n++q)=c::(r++q):=by rw[e,List.cons_append,cU (RJ hc)]
   have:=Pn (d:=p) (l:=l) hs hc
   rw[show c::(r++q)=cn n++q by rw[e]; rfl,Cr hn h1 p l hq]at this
   exact this
  ·refine X2.Gp fun q l hq => ?_
   show SF p l (s++q) (.ok (.mk 2 zF s []) q l)
   obtain⟨_,_,c,r,e,hc⟩:=en h1
   have hs:wV (s++q)=c::(r++q):=by rw[e,List.cons_append,cU (R6 hc)]
   have:=RR (d:=p) (l:=l) hs hc
   rw[show c::(r++q)=s++q by rw[e]; rfl,Cw h1 l hq]at this
   exact this
  ·have hd:=U5 J5
   have hp:p≤d:=hp
   have e0:wo (.mk 7 n [] [a])=1+(wo a+0):=rfl
   refine X2.Gp fun q l hq => ?_
   show SF p l ([45]++vz (decide (zy a.kind<3)) (prE a)++q) (.ok (xa 7 [canE a]) q l)
   rw[List.append_assoc]
   refine RZ (cU (by decide)) (by omega) ?_
   refine Br (fun h=>ih a (d+1) (p+1) (by omega) J5 ha.2.1 ?_) (fun h=>⟨ih a (d+1) (p+1+1) (by omega) J5 ha.2.1 ?_,?_⟩) q l hq
   ·unfold Xi; split<;>omega
   ·unfold Xi; rw[if_pos h]; omega
   ·have:=Ql J5 h; omega
  ·have e0:wo (.mk k n [] [a,b])=1+(wo a+(wo b+0)):=rfl
   have hd:=U5 J5
   have hp:p≤d+1:=by
    have h:p≤Xi d (.mk k n [] [a,b]):=hp
    unfold Xi at h
    split at h<;>omega
   have ka0:X2 a p:=ih a (d+1) p (by omega) J5 ha.2.1 (by unfold Xi; split<;>omega)
   have kb0:X2 b p:=ih b (d+1) p (by omega) hob ha.2.2.1 (by unfold Xi; split<;>omega)
   have ka1:zy a.kind<3→X2 a (p+1)∧p<31:=fun h=>⟨ih a (d+1) (p+1) (by omega) J5 ha.2.1 (by unfold Xi; rw[if_pos h]; omega),by have:=Ql J5 h; omega⟩
   have kb1:zy b.kind<3→X2 b (p+1)∧p<31:=fun h=>⟨ih b (d+1) (p+1) (by omega) hob ha.2.2.1 (by unfold Xi; rw[if_pos h]; omega),by have:=Ql hob h; omega⟩
   -- RO
   have RO:∀ (c:UInt8) (k:Int),(c=43∧k=3)∨(c=45∧k=4)→∀ q l R,nJ q=true→qu [42,47] q=none→RS p (xa k [canE a,canE b]) q l R→SS p l (prE a++([32,c,32]++(vz (decide (zy b.kind<2)) (prE b)++q))) R:=by
    intro c k OC q l R hq ht hR
    have Pm:c≠32:=by rcases OC with⟨rfl,_⟩ | ⟨rfl,_⟩<;>decide
    have hcm:[43,45].contains c=true:=by rcases OC with⟨rfl,_⟩ | ⟨rfl,_⟩<;>decide
    have hcp:[42,47].contains c=false:=by rcases OC with⟨rfl,_⟩ | ⟨rfl,_⟩<;>decide
    have Hy:(if c=43 then(3:Int)else 4)=k:=by rcases OC with⟨rfl,rfl⟩ | ⟨rfl,rfl⟩<;>decide
    generalize hB:vz (decide (zy b.kind<2)) (prE b)++q=B
    have EH:wV ([32,c,32]++B)=c::32::B:=by
     show wV (32::c::32::B)=_
     rw[Qf,cU Pm]
    have t1:qu [42,47] ([32,c,32]++B)=none:=by unfold qu; rw[EH]; dsimp only; rw[if_neg (by rw[hcp]; simp)]
    have t2:qu [43,45] ([32,c,32]++B)=some (c,32::B):=by unfold qu; rw[EH]; dsimp only; rw[if_pos hcm]
    refine ka0.sum _ l R rfl t1 (Nz t2 (z0b (Hi (fun _=>kb0) (fun h=>kb1 (by omega)) q l _ hq (Z0 ht)) (by rw[Qf,hB])) ?_)
    rw[Hy]
    exact EO hR
   have z1G:∀ (c:UInt8) (k:Int),(c=42∧k=5)∨(c=47∧k=6)→∀ q l R,nJ q=true→RP p (xa k [canE a,canE b]) q l R→SP p l (vz (decide (zy a.kind<2)) (prE a)++([32,c,32]++(vz (decide (zy b.kind<3)) (prE b)++q))) R:=by
    intro c k OC q l R hq hR
    have Pm:c≠32:=by rcases OC with⟨rfl,_⟩ | ⟨rfl,_⟩<;>decide
    have hcp:[42,47].contains c=true:=by rcases OC with⟨rfl,_⟩ | ⟨rfl,_⟩<;>decide
    have Hy:(if c=42 then(5:Int)else 6)=k:=by rcases OC with⟨rfl,rfl⟩ | ⟨rfl,rfl⟩<;>decide
    generalize hB:vz (decide (zy b.kind<3)) (prE b)++q=B
    have EH:wV ([32,c,32]++B)=c::32::B:=by
     show wV (32::c::32::B)=_
     rw[Qf,cU Pm]
    have t2:qu [42,47] ([32,c,32]++B)=some (c,32::B):=by unfold qu; rw[EH]; dsimp only; rw[if_pos hcp]
    refine Hi (fun _=>ka0) (fun h=>ka1 (by omega)) _ l R rfl (Ht t2 (z0q (Br (fun _=>kb0) kb1 q l hq) (by rw[Qf,hB])) ?_)
    rw[Hy]
    exact hR
   have s1:∀ q:zh,decide (zy a.kind<1)=false:=fun _=>decide_eq_false (by have:=EI a.kind; omega)
   rcases hk with rfl | rfl | rfl | rfl
   ·refine⟨fun q l R hq ht hR => ?_,fun h=>absurd h (show ¬ 2≤zy 3 by decide),fun h=>absurd h (show ¬ 3≤zy 3 by decide)⟩
    have:=RO 43 3 (.inl ⟨rfl,rfl⟩) q l R hq ht hR
    show SS p l (vz (decide (zy a.kind<1)) (prE a)++[32,43,32]++vz (decide (zy b.kind<2)) (prE b)++q) R
    rw[s1 [],List.append_assoc,List.append_assoc]
    exact this
   ·refine⟨fun q l R hq ht hR => ?_,fun h=>absurd h (show ¬ 2≤zy 4 by decide),fun h=>absurd h (show ¬ 3≤zy 4 by decide)⟩
    have:=RO 45 4 (.inr ⟨rfl,rfl⟩) q l R hq ht hR
    show SS p l (vz (decide (zy a.kind<1)) (prE a)++[32,45,32]++vz (decide (zy b.kind<2)) (prE b)++q) R
    rw[s1 [],List.append_assoc,List.append_assoc]
    exact this
   ·refine X2.Fi (show zy 5≤2 by decide) fun q l R hq hR => ?_
    have:=z1G 42 5 (.inl ⟨rfl,rfl⟩) q l R hq hR
    show SP p l (vz (decide (zy a.kind<2)) (prE a)++[32,42,32]++vz (decide (zy b.kind<3)) (prE b)++q) R
    rw[List.append_assoc,List.append_assoc]
    exact this
   ·refine X2.Fi (show zy 6≤2 by decide) fun q l R hq hR => ?_
    have:=z1G 47 6 (.inr ⟨rfl,rfl⟩) q l R hq hR
    show SP p l (vz (decide (zy a.kind<2)) (prE a)++[32,47,32]++vz (decide (zy b.kind<3)) (prE b)++q) R
    rw[List.append_assoc,List.append_assoc]
    exact this
theorem rdE(e:Expr)(p:Nat)(h:uI p e=true)(ha:allOk e):X2 e p:=RN (wo e) e p p (Nat.le_refl _) h ha (by unfold Xi; split<;>omega)
theorem iQ{n:Rat}(h:xT n=true):norm n=norm zF:=by
 unfold xT at h
 simp only[Bool.and_eq_true,List.isEmpty_iff]at h
 have:nv n.2.1=0:=by rw[h.2.1]; rfl
 unfold norm
 have z:∀ b d,wK b 0 d=(false,[],[1],()):=fun b d=>by unfold wK; rw[if_pos (.inl rfl)]
 rw[this,z,show nv zF.2.1=0 from rfl,z]
structure z2j(d:Nat)(e:Expr):Prop where
 ok:uI d (canE e)=true
 same:sameE e (canE e)=true
 pr:prE (canE e)=prE e
 kind:(canE e).kind=e.kind
 nd:wo (canE e)=wo e
 yJ:kt (canE e)
 sz:hJ (canE e)≤hJ e
 len:(prE e).length≤410*wo e
theorem U7{d:Nat}{k:Int}{n:Rat}{s:zh}{l:List Expr}(h1:d<32)(h2:jM (.mk k n s l)=true)(h3:kQ (d+1) l=true):uI d (.mk k n s l)=true:=by
 show(decide (d<32)&&(jM (.mk k n s l)&&kQ (d+1) l))=true
 rw[decide_eq_true h1,h2,h3]; rfl
theorem GN(k:Int)(n:Rat)(s:zh)(l:List Expr):prE (.mk k n s l)=if k=1 then(qC (norm n).1 (nv (norm n).2.1) (nv (norm n).2.2.1) 0 61).1 else if k=2 then s else nh k (prL l):=rfl
theorem VD(n:Rat)(s:zh)(l:List Expr):prE (.mk 2 n s l)=s:=by
 rw[GN,if_neg (by decide),if_pos rfl]
theorem Ui(n:Rat)(s:zh)(a:Expr):prE (.mk 7 n s [a])=[45]++vz (decide (zy a.kind<3)) (prE a):=by
 rw[GN,if_neg (by decide),if_neg (by decide)]; rfl
theorem Nh:∀ (m:Nat) (e:Expr) (d:Nat),wo e≤m→uI d e=true→allOk e→z2j d e:=by
 intro m
 induction m with
 | zero=>intro e d hm; have:=pq e; omega
 | succ m ih =>
  intro e d hm ho ha
  have hd:=U5 ho
  cases e with | mk k n s l =>
  have hn:=ha.1
  rcases VE ho with⟨rfl,rfl,h1,rfl⟩ | ⟨rfl,rfl,h1,h2⟩ | ⟨rfl,⟨a,rfl,J5⟩,h1,rfl⟩ | ⟨hk,⟨a,b,rfl,J5,hob⟩,h1,rfl⟩
  ·have hnn:=WH hn (XW h1).1
   have e1:canE (.mk 1 n [] [])=.mk 1 n [] []:=by
    show Expr.mk 1 (norm n) [] []=_
    rw[hnn]
   have hl:=(o5 hn h1).2.1
   refine⟨by rw[e1]; exact ho,by rw[e1]; exact Qu _,by rw[e1],by rw[e1],by rw[e1],by rw[e1]; exact uB 1 n [] hn (by simp),by rw[e1]; exact Nat.le_refl _,?_⟩
   have e2:wo (.mk 1 n [] [])=1:=rfl
   have e3:prE (.mk 1 n [] [])=cn n:=rfl
   rw[e2,e3]
   omega
  ·have e1:canE (.mk 2 n s [])=.mk 2 zF s []:=rfl
   have hl:=(en h1).1
   refine⟨?_,?_,by rw[e1,VD,VD],rfl,rfl,uB 2 zF s xW hl,?_,?_⟩
   ·rw[e1]
    refine U7 hd ?_ rfl
    show((((0:Nat):Int)==fR 2)&&(xT zF&&ui s))=true
    rw[h1]; rfl
   ·rw[e1]
    show(((2:Int)==2)&&(zD s s&&(yw n zF&&true)))=true
    rw[bD,yP.2 (iQ h2)]; rfl
   ·have e2:hJ (.mk 2 n s [])=3+s.length+8*n.2.1.length+8*n.2.2.1.length+0:=rfl
    have e3:hJ (canE (.mk 2 n s []))=3+s.length+0+0+0:=rfl
    rw[e2,e3]
    omega
   ·have e2:wo (.mk 2 n s [])=1:=rfl
    have e3:=VD n s []
    rw[e2,e3]
    omega
  ·have e0:wo (.mk 7 n [] [a])=1+(wo a+0):=rfl
   have ka:=ih a (d+1) (by omega) J5 ha.2.1
   refine⟨?_,?_,?_,rfl,?_,QV 7 ka.yJ,?_,?_⟩
   ·refine U7 hd rfl ?_
    show(uI (d+1) (canE a)&&true)=true
    rw[ka.ok]; rfl
   ·show(((7:Int)==7)&&(zD [] []&&(yw n zF&&(sameE a (canE a)&&true))))=true
    rw[bD,yP.2 (iQ h1),ka.same]; rfl
   ·rw[show canE (.mk 7 n [] [a])=.mk 7 zF [] [canE a]from rfl,Ui,Ui,ka.pr,ka.kind]
   ·show 1+(wo (canE a)+0)=1+(wo a+0)
    rw[ka.nd]
   ·have:=ka.sz
    have e2:hJ (.mk 7 n [] [a])=3+0+8*n.2.1.length+8*n.2.2.1.length+(hJ a+0):=rfl
    have e3:hJ (canE (.mk 7 n [] [a]))=3+0+0+0+(hJ (canE a)+0):=rfl
    rw[e2,e3]
    omega
   ·have:=ka.len
    have hp:=uu (decide (zy a.kind<3)) (prE a)
    have e3:=Ui n [] a
    rw[e0,e3,List.length_append,List.length_singleton]
    omega
  ·have e0:wo (.mk k n [] [a,b])=1+(wo a+(wo b+0)):=rfl
   have ka:=ih a (d+1) (by omega) J5 ha.2.1
   have kb:=ih b (d+1) (by omega) hob ha.2.2.1
   have k1:k≠1:=by omega
   have k2:k≠2:=by omega
   have e1:canE (.mk k n [] [a,b])=xa k [canE a,canE b]:=by
    show(if k=1 then _ else if k=2 then _ else xa k (canL [a,b]))=_
    rw[if_neg k1,if_neg k2]; rfl
   have p1:∀ (n:Rat) (a b:Expr),prE (.mk k n [] [a,b])=vz (decide (zy a.kind<zy k)) (prE a)++rf k++vz (decide (zy b.kind<zy k+1)) (prE b):=by
    intro n a b
    rw[GN,if_neg k1,if_neg k2]; rfl
   refine⟨?_,?_,?_,by rw[e1]; rfl,?_,by rw[e1]; exact yS k ka.yJ kb.yJ,?_,?_⟩
   ·rw[e1]
    refine U7 hd ?_ ?_
    ·rcases hk with rfl | rfl | rfl | rfl<;>rfl
    ·show(uI (d+1) (canE a)&&(uI (d+1) (canE b)&&true))=true
     rw[ka.ok,kb.ok]; rfl
   ·rw[e1]
    show((k==k)&&(zD [] []&&(yw n zF&&(sameE a (canE a)&&(sameE b (canE b)&&true)))))=true
    rw[bD,yP.2 (iQ h1),ka.same,kb.same]; simp
   ·rw[e1]
    show prE (.mk k zF [] [canE a,canE b])=_
    rw[p1,p1,ka.pr,kb.pr,ka.kind,kb.kind]
   ·rw[e1,Sd,ka.nd,kb.nd,e0]; omega
   ·rw[e1]
    have:=ka.sz
    have:=kb.sz
    have e2:hJ (.mk k n [] [a,b])=3+0+8*n.2.1.length+8*n.2.2.1.length+(hJ a+(hJ b+0)):=rfl
    have e3:hJ (xa k [canE a,canE b])=3+0+0+0+(hJ (canE a)+(hJ (canE b)+0)):=rfl
    rw[e2,e3]
    omega
   ·rw[p1,e0,List.length_append,List.length_append]
    have:=ka.len
    have:=kb.len
    have:=uu (decide (zy a.kind<zy k)) (prE a)
    have:=uu (decide (zy b.kind<zy k+1)) (prE b)
    have:=sr k
    omega
theorem me(e:Expr)(d:Nat)(ho:uI d e=true)(ha:allOk e):z2j d e:=Nh (wo e) e d (Nat.le_refl _) ho ha
theorem rH{e:Expr}(h:sn e=true):uI 0 e=true∧wo e≤256:=by
 unfold sn at h
 rw[Bool.and_eq_true,decide_eq_true_eq]at h
 exact h
mutual
theorem Ih:∀ (e:Expr),bkE e≤3*hJ e
 | .mk k n s l=>by
  have:=H3 l
  show 1+((1+((List.length n.2.1+1)+((List.length n.2.2.1+1)+1)))+((List.length s+1)+((bkEs l+1)+1)))≤3*(3+s.length+8*n.2.1.length+8*n.2.2.1.length+szEs l)
  omega
theorem H3:∀ (l:List Expr),bkEs l≤3*szEs l
 | []=>Nat.le_refl _
 | e::r=>by
  have:=Ih e
  have:=H3 r
  show bkE e+bkEs r≤3*(hJ e+szEs r)
  omega
end
theorem UO(e:Expr)(left:Int)(h0 : -100000000000≤left)(h1:left≤600)(hb:bkE e≤1000000000):(kI e left).run=some (wtE e left):=by
 unfold kI
 refine eA (fun x:Expr×Int => -100000000000≤x.2∧x.2≤600∧bkE x.1≤1000000000) (fun x=>bkE x.1) (fun x=>wtE x.1 x.2) (fun x hx g hg => ?_) (x:=(e,left)) ⟨h0,h1,hb⟩
 obtain⟨e,left⟩:=x
 obtain⟨h0,h1,hx⟩:=hx
 simp only at hx hg h0 h1
 have hk:=rU e
 have hkl:=JG e.kids
 have loop:∀ acc:Int,-1000000000000≤acc→acc≤600→(ma (fun y0 y1=>g (y0,y1)) e (acc,0)).run=some (wtEs e.kids acc):=by
  intro acc a1 a2
  refine Ws e.kids (zA .expr) (fun b i=>(b,i)) (fun b r=>b≤600∧∀ x∈r,x∈e.kids) (fun r b=>wtEs r b) ?_ ?_ ⟨a2,fun x hx=>hx⟩
  ·rintro b x xs i hi0 hi hx ⟨b1,b2⟩
   by_cases QZ:0≤b
   ·have hm:=KJ (b2 x List.mem_cons_self)
    have hr:=hg (x,b) ⟨by simp only; omega,b1,by simp only; omega⟩ (by simp only; omega)
    simp only at hr
    have:=(Eo x b).1
    refine .inl ⟨wtE x b,?_,⟨by omega,fun y hy=>b2 y (List.mem_cons_of_mem _ hy)⟩,?_⟩
    ·simp(disch:=omega) [j4,hi,hx,QZ,hr]
    ·simp[wtEs,QZ]
   ·right
    have hw:wtEs (x::xs) b=b:=FB _ _ QZ
    simp[j4,hi,QZ,hw]
  ·rintro b _
   simp[j4,wtEs]
 unfold gj
 cases e with | mk k n s kids =>
 simp only[Expr.kids,Expr.name,Expr.num,bkE]at *
 have hL:=loop (left-3-s.length-8*n.2.1.length-8*n.2.2.1.length) (by omega) (by omega)
 rw[zJ (x:=left-3) (by omega) (by omega),zJ (x:=left-3-s.length) (by omega) (by omega),zJ (x:=8*(n.2.1.length:Int)) (by omega) (by omega),zJ (x:=left-3-s.length-8*n.2.1.length) (by omega) (by omega),
  zJ (x:=8*(n.2.2.1.length:Int)) (by omega) (by omega),zJ (by omega) (by omega),z6 hL,z8]
 rfl
theorem Wb(e:Expr)(m:Int)(hm:0≤m)(tW:m≤600)(hw:wfE e)(hb:bkE e≤1048576):∃ w,(kI e m).run=some w∧(0≤w→(hJ e:Int)≤m∧allOk e):=by
 refine⟨wtE e m,UO e m (by omega) tW (by omega),fun h => ?_⟩
 have:=L5 e m h
 have hs:(hJ e:Int)≤m:=by omega
 exact⟨hs,UK e hw (by omega)⟩
def vF:Nat→zh
 | 0=>[]
 | n+1=>32::vF n
theorem U1:∀ n,(vF n).length=n
 | 0=>rfl
 | n+1=>by show(vF n).length+1=n+1; rw[U1 n]
theorem KW:∀ n,vF n++[32]=vF (n+1)
 | 0=>rfl
 | n+1=>by show 32::(vF n++[32])=32::vF (n+1); rw[KW n]
theorem si:∀ (n:Nat) (r:zh),wV (vF n++r)=wV r
 | 0,_=>rfl
 | n+1,r=>by show wV (32::(vF n++r))=_; rw[Qf,si n r]
theorem LD(n:Nat){r:zh}(h:nJ r=true):nJ (vF n++r)=true:=by
 cases n with
 | zero=>exact h
 | succ n=>rfl
theorem E9(n:Nat)(hn:n≤10)(a b:Expr):(kh (n:Int) a b (([]:zh),(0:Int))).run=some (vF n):=by
 have key:∀ (m k:Nat),k+m=n→(kh (n:Int) a b (vF k,(k:Int))).run=some (vF n):=by
  intro m
  induction m with
  | zero =>
   intro k hk
   have:k=n:=by omega
   subst this
   refine q9 ?_
   unfold ud
   dsimp only
   rw[za (J9 _),z8]
  | succ m ih =>
   intro k hk
   refine(xV (s':=(vF (k+1),((k+1:Nat):Int))) ?_).trans (ih (k+1) (by omega))
   unfold ud
   dsimp only
   have:=U1 k
   rw[zc (pA (by omega)),qm _ (by simp; omega),z8,Lh k n (by omega) (by omega),gO,KW]
 exact key n 0 (by omega)
theorem ZT:∀ (m:Nat) (a b:Expr),wo a≤m→sameE a b=sameE b a:=by
 intro m
 induction m with
 | zero=>intro a b hm; have:=pq a; omega
 | succ m ih =>
  intro a b hm
  cases a with | mk k n s l =>
  cases b with | mk k' n' s' l' =>
  have hls:∀ (l l':List Expr),vA l≤m→sameEs l l'=sameEs l' l:=by
   intro l
   induction l with
   | nil=>intro l' _; cases l'<;>rfl
   | cons x r ihr =>
    intro l' h
    have e0:vA (x::r)=wo x+vA r:=rfl
    cases l' with
    | nil=>rfl
    | cons y r' =>
     show(sameE x y&&sameEs r r')=(sameE y x&&sameEs r' r)
     rw[ih x y (by omega),ihr r' (by omega)]
  have e0:wo (.mk k n s l)=1+vA l:=rfl
  have h1:yw n n'=yw n' n:=by
   rw[Bool.eq_iff_iff,yP,yP]; exact eq_comm
  have h2:zD s s'=zD s' s:=by
   rw[wI,wI]; exact decide_eq_decide.2 eq_comm
  have h3:(k==k')=(k'==k):=by
   rw[Bool.eq_iff_iff,beq_iff_eq,beq_iff_eq]; exact eq_comm
  show((k==k')&&(zD s s'&&(yw n n'&&sameEs l l')))=((k'==k)&&(zD s' s&&(yw n' n&&sameEs l' l)))
  rw[h1,h2,h3,hls l l' (by omega)]
theorem Eu{e:Expr}(h:X2 e 1)(g0 g1 g2:Nat)(q:zh)(l:Bool):SF 0 l (vF g0++(40::(vF g1++(prE e++(vF g2++(41::q)))))) (.ok (canE e) q l):=by
 have R1:wV (41::q)=41::q:=cU (by decide)
 have hg:wV (vF g2++(41::q))=41::q:=by rw[si,R1]
 have t1:qu [42,47] (vF g2++(41::q))=none:=by unfold qu; rw[hg]; rfl
 have t2:qu [43,45] (vF g2++(41::q))=none:=by unfold qu; rw[hg]; rfl
 refine IN (r:=vF g1++(prE e++(vF g2++(41::q)))) (by rw[si,cU (by decide)]) (by omega) (z1q (h.sum (vF g2++(41::q)) l _ (LD g2 rfl) t1 (V4 t2)) (si g1 _)) (by rw[hg,R1])
theorem HV{a b:Expr}(h:sn (xa 5 [a,b])=true)(ha:allOk a)(hb:allOk b):uI 1 a=true∧uI 1 b=true∧sn (xa 5 [canE a,canE b])=true:=by
 obtain⟨h1,h2⟩:=rH h
 have h3:=(lq h1).2
 have h3:(uI 1 a&&(uI 1 b&&true))=true:=h3
 simp only[Bool.and_eq_true]at h3
 have ka:=me a 1 h3.1 ha
 have kb:=me b 1 h3.2.1 hb
 refine⟨h3.1,h3.2.1,?_⟩
 unfold sn
 rw[Sd,ka.nd,kb.nd]
 rw[Sd]at h2
 have h5:uI 0 (xa 5 [canE a,canE b])=true:=U7 (by omega) rfl (by show(uI 1 (canE a)&&(uI 1 (canE b)&&true))=true; rw[ka.ok,kb.ok]; rfl)
 rw[decide_eq_true h2,h5]
 rfl
def D9(n:Nat)(A B:zh):zh :=
 vF n++(40::(vF n++(A++(vF n++(41::(vF n++(42::(vF n++(40::(B++(vF n++(41::vF n))))))))))))
theorem Vj{a b:Expr}(h:sn (xa 5 [a,b])=true)(ha:allOk a)(hb:allOk b)(n:Nat) :
  eJ (D9 n (prE a) (prE b))=(xa 5 [canE a,canE b],((0:Int),(0:Int))):=by
 obtain⟨oa,ob,hI⟩:=HV h ha hb
 have EH:wV (vF n)=[]:=by have:=si n []; rw[List.append_nil]at this; exact this
 have t0:qu [42,47] (vF n)=none:=by unfold qu; rw[EH]
 have t1:qu [43,45] (vF n)=none:=by unfold qu; rw[EH]
 have Uq:=Eu (rdE b 1 ob hb) n 0 n (vF n) false
 have hs:SS 0 false (D9 n (prE a) (prE b)) (.ok (xa 5 [canE a,canE b]) [] false):=by
  refine FN (Bb (Eu (rdE a 1 oa ha) n n n _ false) (Ht (c:=42) (q:=vF n++(40::(prE b++(vF n++(41::vF n))))) ?_ Uq (Z0 t0))) ?_
  ·unfold qu; rw[si,cU (by decide)]; rfl
  ·rw[EH,if_pos rfl]
   exact V4 rfl
 unfold eJ
 rw[Rh hs]
 unfold J3 ft
 dsimp only
 rw[if_neg (by decide),hI,if_neg (by simp)]
theorem mX(a b:Expr)(n:Int)(hwa:wfE a)(hwb:wfE b)(hba:bkE a≤1048576)(FK:bkE b≤1048576):(jQ a b n).run=some true:=by
 obtain⟨w,h1,h2⟩:=Wb a 300 (by omega) (by omega) hwa hba
 obtain⟨v,g1,g2⟩:=Wb b 300 (by omega) (by omega) hwb FK
 unfold jQ
 by_cases c:w<0
 ·rw[z6 (a:=true) (by rw[z6 h1,zc (decide_eq_true c),z8]),zl,z8]
 by_cases c2:v<0
 ·rw[z6 (a:=true) (by rw[z6 h1,za (decide_eq_false c),z6 g1,zc (decide_eq_true c2),z8]),zl,z8]
 obtain⟨hsa,ha⟩:=h2 (by omega)
 obtain⟨hsb,hb⟩:=g2 (by omega)
 have na:=Qo a
 have nb:=Qo b
 have sa:=Ih a
 have sb:=Ih b
 have ia:=ym a ha (by omega) (by omega)
 have ib:=ym b hb (by omega) (by omega)
 cases hIa:sn a with
 | false =>
  rw[z6 (a:=true) (by rw[z6 h1,za (decide_eq_false c),z6 g1,za (decide_eq_false c2),z6 ia,hIa,zc (by rfl),z8]),zl,z8]
 | true =>
  cases hIb:sn b with
  | false =>
   rw[z6 (a:=true) (by rw[z6 h1,za (decide_eq_false c),z6 g1,za (decide_eq_false c2),z6 ia,hIa,za (by rfl),z6 ib,hIb,zc (by rfl),z8]),zl,z8]
  | true =>
   by_cases c3:n<0
   ·rw[z6 (a:=true) (by rw[z6 h1,za (decide_eq_false c),z6 g1,za (decide_eq_false c2),z6 ia,hIa,za (by rfl),z6 ib,hIb,za (by rfl),zc (decide_eq_true c3),z8]),zl,z8]
   rw[z6 (a:=decide ((10:Int)<n)) (by rw[z6 h1,za (decide_eq_false c),z6 g1,za (decide_eq_false c2),z6 ia,hIa,za (by rfl),z6 ib,hIb,za (by rfl),za (decide_eq_false c3),z8])]
   by_cases c4:10<n
   ·rw[zc (decide_eq_true c4),z8]
   obtain⟨N,rfl⟩:∃ N:Nat,n=(N:Int):=⟨n.toNat,by omega⟩
   have oa:=(rH hIa).1
   have ob:=(rH hIb).1
   have la:=(me a 0 oa ha).len
   have lb:=(me b 0 ob hb).len
   have pa:=l8 a oa ha (by omega) (by omega)
   have pb:=l8 b ob hb (by omega) (by omega)
   have lg:=U1 N
   rw[za (decide_eq_false c4),z6 (E9 N (by omega) a b)]
   have l1:∀ x:UInt8,([x]:zh).length=1:=fun _=>rfl
   rw[qm _ (by rw[lg,l1]; omega),qm _ (by simp only[vT,lg,l1]; omega),z6 pa,qm _ (by simp only[vT,lg,l1]; omega),qm _ (by simp only[vT,lg,l1]; omega),qm _ (by simp only[vT,lg,l1]; omega),qm _ (by simp only[vT,lg,l1]; omega),qm _ (by simp only[vT,lg,l1]; omega),qm _ (by simp only[vT,lg,l1]; omega),qm _ (by simp only[vT,lg,l1]; omega),
    z6 pb,qm _ (by simp only[vT,lg,l1]; omega),qm _ (by simp only[vT,lg,l1]; omega),qm _ (by simp only[vT,lg,l1]; omega),qm _ (by simp only[vT,lg,l1]; omega)]
   have z0j:cat (cat (cat (cat (cat (cat (cat (cat (cat (cat (cat (cat (cat (vF N) ([40]:zh)) (vF N)) (prE a)) (vF N)) ([41]:zh)) (vF N)) ([42]:zh)) (vF N)) ([40]:zh)) (prE b)) (vF N)) ([41]:zh)) (vF N)=D9 N (prE a) (prE b):=by
    unfold D9
    simp only[gO,List.append_assoc,List.cons_append,List.nil_append]
   have hlen:(D9 N (prE a) (prE b)).length≤90000:=by
    rw[← z0j]; simp only[vT,lg,l1]; omega
   rw[z0j]
   have z01:=fun h=>Vj (a:=a) (b:=b) h ha hb N
   generalize D9 N (prE a) (prE b)=s at hlen z01 ⊢
   have hP:=XO s (by omega)
   have hQ:=QP s (by omega)
   have hwI:=ym (xa 5 [a,b]) ⟨xW,ha,hb,trivial⟩ (by show 1+((1+((0+1)+((0+1)+1)))+((0+1)+(((bkE a+(bkE b+0))+1)+1)))≤1000000000; omega) (by rw[Sd]; omega)
   rw[z6 hP]
   cases q:eJ s with
   | mk e z =>
    obtain⟨at_,x⟩:=z
    rw[q]at hQ
    dsimp only
    have head:(T.bind (jW (Expr.mk (5:Int) (false,(([]:List Int),(([]:List Int),()))) ([]:zh) ([a,b]:List AM.Expr))) fun r8 =>
     .ite (!r8)
      (.ret (true,((Expr.mk (5:Int) (false,(([]:List Int),(([]:List Int),()))) ([]:zh) ([a,b]:List AM.Expr)),e)))
      (.ret ((x==(4:Int)),((Expr.mk (5:Int) (false,(([]:List Int),(([]:List Int),()))) ([]:zh) ([a,b]:List AM.Expr)),e))):T (Bool×AM.Expr×AM.Expr)).run=some (!sn (xa 5 [a,b])||(x==(4:Int)),(xa 5 [a,b],e)):=by
     have hwI:(jW (Expr.mk (5:Int) (false,(([]:List Int),(([]:List Int),()))) ([]:zh) ([a,b]:List AM.Expr))).run=_:=hwI
     rw[z6 hwI]
     cases sn (xa 5 [a,b])<;>rfl
    rw[z6 head]
    dsimp only
    cases c5:(!sn (xa 5 [a,b])||(x==(4:Int)))with
    | true =>
     rw[zl,z6 hQ]
     dsimp only
     rw[zc (by simp),z6 ZF,z8]
    | false =>
     simp only[Bool.or_eq_false_iff,Bool.not_eq_false']at c5
     have hw:=z01 c5.1
     rw[q]at hw
     injection hw with hw1 mW
     injection mW with _ hx
     subst hw1
     subst hx
     obtain⟨oa1,ob1,hI5⟩:=HV c5.1 ha hb
     have ka:=me a 1 oa1 ha
     have kb:=me b 1 ob1 hb
     have hsm:sameE (xa 5 [canE a,canE b]) (xa 5 [a,b])=true:=by
      show(((5:Int)==5)&&(zD [] []&&(yw zF zF&&(sameE (canE a) a&&(sameE (canE b) b&&true)))))=true
      rw[bD,yP.2 rfl,ZT (wo (canE a)) (canE a) a (Nat.le_refl _),ZT (wo (canE b)) (canE b) b (Nat.le_refl _),ka.same,kb.same]; rfl
     have hS:=Xe (xa 5 [canE a,canE b]) (xa 5 [a,b]) (yS 5 ka.yJ kb.yJ).1 ⟨xW,ha,hb,trivial⟩ (by rw[Sd,ka.nd,kb.nd]; omega)
     rw[hsm]at hS
     rw[zm,zc (by rfl),z6 hS,zl,z6 ZF,z8]
theorem n3(x:XA [.expr,.expr,i64])(hw:Tf [.expr,.expr,i64] x)(hb:S7 [.expr,.expr,i64] x≤1048576):(jQ (Yn [.expr,.expr,i64] x).1 (Yn [.expr,.expr,i64] x).2.1 (Yn [.expr,.expr,i64] x).2.2).run=some true:=by
 obtain⟨a,b,n,⟨⟩⟩:=x
 have h3:bkE a+(bkE b+(1+0))≤1048576:=hb
 exact mX a b n hw.1 hw.2.1 (by omega) (by omega)
end Go.AM.Lf
