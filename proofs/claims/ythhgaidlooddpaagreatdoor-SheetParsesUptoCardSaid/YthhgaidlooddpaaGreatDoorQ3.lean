/-
  Plain laws of the lifted program, part 3.
-/
import Derived.Test.YthhgaidlooddpaaGreatDoorLf0
import Derived.Test.YthhgaidlooddpaaGreatDoorAmA
import Derived.Test.YthhgaidlooddpaaGreatDoorAmD
import Derived.Test.YthhgaidlooddpaaGreatDoorQ0
import Derived.Test.YthhgaidlooddpaaGreatDoorQ1
import Derived.Test.YthhgaidlooddpaaGreatDoorQ2
set_option linter.unusedVariables false
open Go.AM.T (qu z6 z7 z8 zL za zb zf zk zm)
namespace Go.AM.Lf
open PL
theorem XC(c b:UInt8)(r:zd):ju c (b::r)=if b=c then[]::ju c r else NX b (ju c r):=rfl
theorem Pj(c:UInt8):∀ (l r:zd),(∀ b∈l,b≠c)->ju c (l++c::r)=l::ju c r
 | [],r,_=>by
  show ju c (c::r)=_
  rw[XC,if_pos rfl]
 | b::l,r,h=>by
  show ju c (b::(l++c::r))=_
  rw[XC,if_neg (h b List.mem_cons_self),Pj c l r λx hx=>h x (List.mem_cons_of_mem _ hx)]
  rfl
theorem IK(c:UInt8):∀ (l:zd),(∀ b∈l,b≠c)->ju c l=[l]
 | [],_=>rfl
 | b::l,h=>by
  rw[XC,if_neg (h b List.mem_cons_self),IK c l λx hx=>h x (List.mem_cons_of_mem _ hx)]
  rfl
def fP(S:oo):List Switch×List Switch×List Param×List Param×List qq×List qq×List Field×List Field×List Check×List Check×List qk×List qk :=
 ([],(S.1,([],(S.2.1,([],(S.2.2.1,([],(S.2.2.2.1,([],(S.2.2.2.2.2,([],S.2.2.2.2.1)))))))))))
theorem OV(s:zd)(hs:s.length<=80000)(a i k:Nat)(S:oo)(ha:a<=i)(hi:i<=s.length)(hk:k<=1000000)(ht:Eb S<=1000000)(hc:(decide ((i:Int)<((s.length:Nat):Int))&&(zt s (i:Int) != (10:Int)))=false)(line:zd)(C7:qC (a:Int) (i:Int) s=line) :
  ((vr S.2.2.1.length line).1=0->(wj s ((a:Int),(((k+1:Nat):Int),((i:Int),((),((),fP S)))))).run=some (.inl (((i+1:Nat):Int),(((k+2:Nat):Int),(((i+1:Nat):Int),((),((),fP (pV S (vr S.2.2.1.length line).2)))))))) /\
  ((vr S.2.2.1.length line).1≠0->∃ Z,(wj s ((a:Int),(((k+1:Nat):Int),((i:Int),((),((),fP S)))))).run=some (.inr (.inr (((k+1:Nat):Int),((vr S.2.2.1.length line).1,(noF,Z)))))):=by
 have hle:line.length<=s.length:=by
  rw[<- C7,uH,List.length_drop,List.length_take]; omega
 have nO:=sG 32 line []
 have hwi:zI ((i:Int)+1)=((i+1:Nat):Int):=by rw[zA (by omega) (by omega)]; omega
 have hwk:zI (((k+1:Nat):Int)+1)=((k+2:Nat):Int):=by rw[zA (by omega) (by omega)]; omega
 have pre:∀ (w:List zd),xK 32 [] line=w->((decide ((0:Int)<(Nat.cast (List.length w):Int)))=true)->((q9 (0:Int) (List.length w))/\(q9 (0:Int) (List.length (nth w (0:Int) (zn .str))))):=by
  intro w hw h
  cases w with
  | nil=>cases h
  | cons x r =>
   rw[hw]at nO
   have:=(nO x List.mem_cons_self).1
   exact⟨tg (by simp),tg (show 0<x.length from List.length_pos_iff.2 this)⟩
 have FU:pV S qR=S:=by
  show gZ S.1 S.2.1 S.2.2.1 S.2.2.2.1 S.2.2.2.2.1 S.2.2.2.2.2 qR=S
  rw[kU]
 cases hw:xK 32 [] line with
 | nil =>
  have e:=O0 S.2.2.1.length line hw
  rw[e]
  refine⟨λ_ => ?_,λh=>absurd rfl h⟩
  unfold wj fP
  dsimp only
  rw[za (decide_eq_true (by omega)),zb (λh=>zH (by have:=of_decide_eq_true h; omega)),hc,zf,zb (xU.2 ⟨by omega,by omega,by omega⟩),C7,z6 (mw line (by omega)),hw]
  refine(z6 (a:=.inl ((),((),fP S))) ?_ _).trans ?_
  ·rw[zb (pre [] hw),z8 (by rfl)]
   simp only[zl,T.zg,zm,z7]
   rfl
  ·rw[Sum.elim_inl]
   unfold fP
   dsimp only
   simp only[zl,T.zg,zm,z7]
   grind
 | cons x r =>
  have e:=T4 S.2.2.1.length line x r hw
  have hx:=(nO x (by rw[hw]; exact List.mem_cons_self)).1
  have Ka:(decide ((0:Int)<(Nat.cast (List.length (x::r)):Int))&&(zt (nth (x::r) (0:Int) (zn .str)) (0:Int) != (35:Int))) = !tT x:=by
   cases x with
   | nil=>grind
   | cons b q =>
    have:=c6 b 35
    rw[decide_eq_true (by rw[List.length_cons]; omega),Bool.true_and]
    show(!(((b.toNat:Nat):Int)==(((35:UInt8).toNat:Nat):Int))) = !decide (b=35)
    rw[this]
  cases hh:tT x with
  | true =>
   rw[hh,if_pos rfl]at e
   rw[e]
   refine⟨λ_ => ?_,λh=>absurd rfl h⟩
   unfold wj fP
   dsimp only
   rw[za (decide_eq_true (by omega)),zb (λh=>zH (by have:=of_decide_eq_true h; omega)),hc,zf,zb (xU.2 ⟨by omega,by omega,by omega⟩),C7,z6 (mw line (by omega)),hw]
   refine(z6 (a:=.inl ((),((),fP S))) ?_ _).trans ?_
   ·rw[zb (pre _ hw),Ka,hh,z8 (by rfl)]
    simp only[zl,T.zg,zm,z7]
    rfl
   ·rw[Sum.elim_inl]
    unfold fP
    dsimp only
    simp only[zl,T.zg,zm,z7]
    rw[hwi,hwk,FU]
  | false =>
   rw[hh,if_neg (by decide)]at e
   rw[e]
   obtain⟨D,g1,g2⟩:=Cy line (by omega) (x::r) (by simp) (λy hy=>by have:=(nO y (by rw[hw]; exact hy)).2; simp only[List.length_nil]at this; omega) S.1 S.2.1 S.2.2.1 S.2.2.2.1 S.2.2.2.2.1 S.2.2.2.2.2 (z0l ht)
   refine⟨λh0 => ?_,λh0 => ?_⟩
   ·have hD:=g2 h0
    subst hD
    unfold wj fP
    dsimp only
    rw[za (decide_eq_true (by omega)),zb (λh=>zH (by have:=of_decide_eq_true h; omega)),hc,zf,zb (xU.2 ⟨by omega,by omega,by omega⟩),C7,z6 (mw line (by omega)),hw]
    refine(z6 (a:=.inl ((),((),fP (pV S (Kg S.2.2.1.length line (x::r)).2)))) ?_ _).trans ?_
    ·rw[zb (pre _ hw),Ka,hh,za (by rfl),zb (xU.2 ⟨by omega,by omega,by omega⟩)]
     simp only[zl,T.zg,zm]
     rw[z6 g1,h0]
     unfold gZ
     dsimp only
     rw[z8 (by rfl)]
     simp only[zl,T.zg,zm,z7]
     rfl
    ·rw[Sum.elim_inl]
     unfold fP
     dsimp only
     simp only[zl,T.zg,zm,z7]
     rw[hwi,hwk]
   ·refine⟨((),fP (pV S D)),?_⟩
    unfold wj fP
    dsimp only
    rw[za (decide_eq_true (by omega)),zb (λh=>zH (by have:=of_decide_eq_true h; omega)),hc,zf,zb (xU.2 ⟨by omega,by omega,by omega⟩),C7,z6 (mw line (by omega)),hw]
    refine(z6 (a:=.inr (((k+1:Nat):Int),((Kg S.2.2.1.length line (x::r)).1,(noF,((),fP (pV S D)))))) ?_ _).trans ?_
    ·rw[zb (pre _ hw),Ka,hh,za (by rfl),zb (xU.2 ⟨by omega,by omega,by omega⟩)]
     simp only[zl,T.zg,zm]
     rw[z6 g1]
     unfold gZ
     dsimp only
     rw[za (by simpa using h0)]
     simp only[zl,T.zg,zm,z7]
     rfl
    ·rw[Sum.elim_inr]
     unfold fP
     dsimp only
     simp only[zl,T.zg,zm,z7]
theorem Po(s:zd)(hs:s.length<=80000):∀ (m a i k:Nat) (S:oo),i+m=s.length+1->a<=i->i<=s.length->k<=a->Eb S<=k->(∀ b∈(s.take i).drop a,b≠10) ->
  ∃ R,(lI s ((a:Int),(((k+1:Nat):Int),((i:Int),((),((),fP S)))))).run=some R/\(match jP (ju 10 (s.drop a)) S k with
   | .inl (n,e)=>∃ Z,R=.inr ((n:Int),(e,(noF,Z)))
   | .inr S'=>R=.inl ((),((),fP S'))):=by
 intro m
 induction m with
 | zero=>grind
 | succ m ih =>
  intro a i k S h1 h2 h3 h4 h5 h6
  have cF:qC (a:Int) (i:Int) s=(s.take i).drop a:=uH s a i
  have z6b:s.drop a=(s.take i).drop a++s.drop i:=by
   conv=>lhs; rw[<- List.take_append_drop i s]
   grind
  by_cases c:i<s.length/\s[i]! ≠ 10
  ·obtain⟨c1,c2⟩:=c
   have c2:s[i]≠10:=by rwa [getElem!_pos s i c1]at c2
   obtain⟨R,r1,r2⟩:=ih a (i+1) k S (by omega) (by omega) (by omega) h4 h5 (λb hb=>by
    rw[List.take_succ_eq_append_getElem c1,List.drop_append_of_le_length (by rw[List.length_take]; omega)]at hb
    rcases List.mem_append.1 hb with hb | hb
    ·exact h6 b hb
    ·rw[List.mem_singleton.1 hb]; exact c2)
   refine⟨R,(qu (s':=((a:Int),(((k+1:Nat):Int),(((i+1:Nat):Int),((),((),fP S)))))) ?_).trans r1,r2⟩
   unfold wj fP
   dsimp only
   have hq:((((s[i].toNat:Nat):Int))==(10:Int))=decide (s[i]=10):=c6 s[i] 10
   rw[za (decide_eq_true (by omega)),zb (λ_=>zH c1),byte_at c1,za (by rw[decide_eq_true (by omega),bne,hq,decide_eq_false c2]; rfl)]
   simp only[zl,T.zg,zm,z7]
   rw[fx i _ c1 (by omega)]
  ·have hc:(decide ((i:Int)<((s.length:Nat):Int))&&(zt s (i:Int) != (10:Int)))=false:=by
    by_cases c1:i<s.length
    ·have c2:s[i]=10:=Classical.byContradiction λh=>c ⟨c1,by rwa [getElem!_pos s i c1]⟩
     rw[byte_at c1,c2]
     exact Bool.and_false _
    ·rw[decide_eq_false (by omega)]; rfl
   obtain⟨b1,b2⟩:=OV s hs a i k S h2 h3 (by omega) (by omega) hc _ cF
   have nN:ju 10 (s.drop a)=(s.take i).drop a::(if i<s.length then ju 10 (s.drop (i+1))else[]):=by
    rw[z6b]
    by_cases c1:i<s.length
    ·have c2:s[i]=10:=Classical.byContradiction λh=>c ⟨c1,by rwa [getElem!_pos s i c1]⟩
     rw[if_pos c1,List.drop_eq_getElem_cons c1,c2,Pj 10 _ _ h6]
    ·rw[if_neg c1,show s.drop i=[]from List.drop_of_length_le (by omega),List.append_nil,IK 10 _ h6]
   rw[nN]
   generalize (s.take i).drop a=line at b1 b2 ⊢
   unfold jP
   by_cases e:(vr S.2.2.1.length line).1=0
   ·rw[if_pos e]
    obtain⟨a1,a2⟩:=XX S.2.2.1.length line
    by_cases c1:i<s.length
    ·rw[if_pos c1]
     obtain⟨R,r1,r2⟩:=ih (i+1) (i+1) (k+1) (pV S (vr S.2.2.1.length line).2) (by omega) (Nat.le_refl _) (by omega) (by omega) (by rw[B4]; omega) (λb hb=>by
      rw[List.drop_of_length_le (by rw[List.length_take]; omega)]at hb; cases hb)
     exact⟨R,(qu (b1 e)).trans r1,r2⟩
    ·rw[if_neg c1]
     refine⟨.inl ((),((),fP (pV S (vr S.2.2.1.length line).2))),(qu (b1 e)).trans (zL ?_),rfl⟩
     unfold wj fP
     dsimp only
     rw[z8 (decide_eq_false (by omega))]
     simp only[zl,T.zg,zm,z7]
   ·rw[if_neg e]
    obtain⟨Z,hZ⟩:=b2 e
    exact⟨.inr (((k+1:Nat):Int),((vr S.2.2.1.length line).1,(noF,Z))),zL hZ,Z,rfl⟩
theorem K3(s:zd)(hF:∀ S,jP (ju 10 s) qR 0=.inr S->FS (GM S)):(fJ s).run=some (cu s):=by
 unfold fJ cu
 by_cases hs:16384<s.length
 ·rw[if_pos hs,za (decide_eq_true (by omega)),z7]
  rfl
 ·rw[if_neg hs,z8 (decide_eq_false (by omega))]
  obtain⟨R,r1,r2⟩:=Po s (by omega) (s.length+1) 0 0 0 qR (by omega) (Nat.le_refl _) (Nat.zero_le _) (Nat.le_refl _) (Nat.le_refl _) (λb hb=>by cases hb)
  rw[List.drop_zero]at r2
  have r1:(lI s ((0:Int),((1:Int),((0:Int),((),((),(([]:List Switch),(([]:List Switch),(([]:List Param),(([]:List Param),(([]:List qq),(([]:List qq),(([]:List Field),(([]:List Field),(([]:List Check),(([]:List Check),(([]:List qk),([]:List qk)))))))))))))))))).run=some R:=r1
  simp only[zl,T.zg,zm]
  rw[z6 r1]
  cases q:jP (ju 10 s) qR 0 with
  | inl p =>
   obtain⟨n,e⟩:=p
   rw[q]at r2
   obtain⟨Z,rfl⟩:=r2
   rfl
  | inr S =>
   rw[q]at r2
   rw[r2,Sum.elim_inl]
   unfold fP
   simp only[Lw,zl,T.zg,zm]
   have hI:(Qn (S.1,(S.2.1,(S.2.2.1,(S.2.2.2.1,(S.2.2.2.2.1,(S.2.2.2.2.2,()))))))).run=some (Vk (GM S)):=CL (GM S) (hF S q)
   rw[z6 hI]
   cases Vk (GM S)with
   | false=>rfl
   | true =>
    rw[z8 (by rfl)]
    simp only[zl,T.zg,zm,z7]
    rfl
def b5{α:Type}(p:α->α->Bool):List α->List α->Bool
 | [],[]=>true
 | x::l,y::m=>p x y&&b5 p l m
 | _,_=>false
theorem fY{α:Type}(p:α->α->Bool):∀ {l m:List α},l.length≠m.length->b5 p l m=false
 | [],[],h=>absurd rfl h
 | [],_::_,_=>rfl
 | _::_,[],_=>rfl
 | x::l,y::m,h=>by
  show(p x y&&b5 p l m)=false
  rw[fY p (l:=l) (m:=m) (λe=>h (by grind)),Bool.and_false]
theorem cL{α:Type}(p:α->α->Bool):∀ {l:List α},(∀ x∈l,p x x=true)->b5 p l l=true
 | [],_=>rfl
 | x::l,h=>by
  show(p x x&&b5 p l l)=true
  rw[h x List.mem_cons_self,cL p λy hy=>h y (List.mem_cons_of_mem _ hy)]; rfl
theorem eF{α:Type}(l m:List α)(d:α)(p:α->α->Bool)(hlen:l.length=m.length){r:Int->T (Int⊕(Unit⊕Bool))}
  (step:∀ (k:Nat) (x y:α),k<l.length->nth l (k:Int) d=x->nth m (k:Int) d=y->x∈l->y∈m->(r (k:Int)).run=some (if p x y=true then .inl ((k+1:Nat):Int)else .inr (.inr false)))
  (done:(r (l.length:Int)).run=some (.inr (.inl ()))):(T.loop r 0).run=some (if b5 p l m=true then .inl ()else .inr false):=by
 have key:∀ (n k:Nat),k+n=l.length->(T.loop r (k:Int)).run=some (if b5 p (l.drop k) (m.drop k)=true then .inl ()else .inr false):=by
  intro n
  induction n with
  | zero =>
   intro k hk
   have:k=l.length:=by omega
   subst this
   rw[List.drop_length,List.drop_of_length_le (by omega)]
   exact zL done
  | succ n ih =>
   intro k hk
   have h1:k<l.length:=by omega
   have h2:k<m.length:=by omega
   rw[List.drop_eq_getElem_cons h1,List.drop_eq_getElem_cons h2]
   have hs:=step k l[k] m[k] h1 (bC h1 d) (bC h2 d) (List.getElem_mem h1) (List.getElem_mem h2)
   show _=some (if(p l[k] m[k]&&b5 p (l.drop (k+1)) (m.drop (k+1)))=true then _ else _)
   cases hp:p l[k] m[k]with
   | true =>
    rw[hp,if_pos rfl]at hs
    rw[Bool.true_and]
    exact(qu hs).trans (ih (k+1) (by omega))
   | false =>
    rw[hp,if_neg (by decide)]at hs
    rw[Bool.false_and,if_neg (by decide)]
    exact zL hs
 have:=key l.length 0 (by omega)
 rwa [List.drop_zero,List.drop_zero]at this
def Bh(x y:Switch):Bool:=zi x.1 y.1&&((x.2.1==y.2.1)&&true)
def KV(x y:Param):Bool:=zi x.1 y.1&&mr x.2.1 y.2.1
def Hn(x y:qq):Bool:=zi x.1 y.1&&(zi x.2.1 y.2.1&&true)
def Gz(x y:Field):Bool:=zi x.1 y.1&&((x.2.1==y.2.1)&&((x.2.2.1==y.2.2.1)&&((x.2.2.2.1==y.2.2.2.1)&&true)))
def Vm(x y:qk):Bool:=zi x.1 y.1&&((x.2.1==y.2.1)&&(zi x.2.2.1 y.2.2.1&&(sameE x.2.2.2.1 y.2.2.2.1&&sameE x.2.2.2.2.1 y.2.2.2.2.1)))
def Uz(x y:Check):Bool:=zi x.1 y.1&&((x.2.1==y.2.1)&&((x.2.2.1==y.2.2.1)&&(sameE x.2.2.2.1 y.2.2.2.1&&sameE x.2.2.2.2.1 y.2.2.2.2.1)))
def IZ(f g:Form):Bool:=b5 Bh f.1 g.1&&(b5 KV f.2.1 g.2.1&&(b5 Hn f.2.2.1 g.2.2.1&&(b5 Gz f.2.2.2.1 g.2.2.2.1&&(b5 Vm f.2.2.2.2.1 g.2.2.2.2.1&&b5 Uz f.2.2.2.2.2.1 g.2.2.2.2.2.1))))
theorem Ky(a b:List qk)(ha:a.length<=1000)(h1:∀ x∈a,uT x.2.2.2.1/\uT x.2.2.2.2.1)(h2:∀ x∈b,uT x.2.2.2.1/\uT x.2.2.2.2.1):(bM a b).run=some (b5 Vm a b):=by
 unfold bM
 by_cases c:a.length=b.length
 ·have key:(iF a b 0).run=some (if b5 Vm a b=true then .inl ()else .inr false):=by
   refine eF (r:=uI a b) a b (zn zY) Vm c (λk x y hk hx hy mx my => ?_) ?_
   ·obtain⟨x1,x2⟩:=h1 x mx
    obtain⟨y1,y2⟩:=h2 y my
    have i1:=zH hk
    have i2:q9 (k:Int) b.length:=zH (by omega)
    unfold uI
    rw[za (vX hk),hx,hy]
    refine(z6 (a := !Vm x y) ?_ _).trans ?_
    ·rw[zb i1,zb i2]
     unfold Vm
     cases zi x.1 y.1 with
     | false=>rfl
     | true =>
      rw[z8 (by rfl),zb i1,zb i2,bne]
      cases(x.2.1==y.2.1)with
      | false=>rfl
      | true =>
       rw[z8 (by rfl),zb i1,zb i2]
       cases zi x.2.2.1 y.2.2.1 with
       | false=>rfl
       | true =>
        rw[z8 (by rfl),zb i1,zb i2,z6 (cP _ _ x1.2.2 y1.2.2 (by have:=x1.2.1; omega))]
        cases sameE x.2.2.2.1 y.2.2.2.1 with
        | false=>rfl
        | true =>
         rw[z8 (by rfl),zb i1,zb i2,z6 (cP _ _ x2.2.2 y2.2.2 (by have:=x2.2.1; omega)),z7]; rfl
    ·cases Vm x y with
     | false=>rfl
     | true=>rw[z8 (by rfl),z7,fx k _ hk (by omega)]; rfl
   ·unfold uI
    simp
  rw[z8 (by rw[c,bne_self_eq_false]),z6 key]
  cases b5 Vm a b<;>rfl
 ·rw[za (by rw[bne_iff_ne]; omega),z7,fY Vm c]
theorem Ur(a b:List Check)(ha:a.length<=1000)(h1:∀ x∈a,uT x.2.2.2.1/\uT x.2.2.2.2.1)(h2:∀ x∈b,uT x.2.2.2.1/\uT x.2.2.2.2.1):(yX a b).run=some (b5 Uz a b):=by
 unfold yX
 by_cases c:a.length=b.length
 ·have key:(fS a b 0).run=some (if b5 Uz a b=true then .inl ()else .inr false):=by
   refine eF (r:=ue a b) a b (zn zF) Uz c (λk x y hk hx hy mx my => ?_) ?_
   ·obtain⟨x1,x2⟩:=h1 x mx
    obtain⟨y1,y2⟩:=h2 y my
    have i1:=zH hk
    have i2:q9 (k:Int) b.length:=zH (by omega)
    unfold ue
    rw[za (vX hk),hx,hy]
    refine(z6 (a := !Uz x y) ?_ _).trans ?_
    ·rw[zb i1,zb i2]
     unfold Uz
     cases zi x.1 y.1 with
     | false=>rfl
     | true =>
      rw[z8 (by rfl),zb i1,zb i2,bne]
      cases(x.2.1==y.2.1)with
      | false=>rfl
      | true =>
       rw[z8 (by rfl),zb i1,zb i2,bne]
       cases(x.2.2.1==y.2.2.1)with
       | false=>rfl
       | true =>
        rw[z8 (by rfl),zb i1,zb i2,z6 (cP _ _ x1.2.2 y1.2.2 (by have:=x1.2.1; omega))]
        cases sameE x.2.2.2.1 y.2.2.2.1 with
        | false=>rfl
        | true =>
         rw[z8 (by rfl),zb i1,zb i2,z6 (cP _ _ x2.2.2 y2.2.2 (by have:=x2.2.1; omega)),z7]; rfl
    ·cases Uz x y with
     | false=>rfl
     | true=>rw[z8 (by rfl),z7,fx k _ hk (by omega)]; rfl
   ·unfold ue
    simp
  rw[z8 (by rw[c,bne_self_eq_false]),z6 key]
  cases b5 Uz a b<;>rfl
 ·rw[za (by rw[bne_iff_ne]; omega),z7,fY Uz c]
theorem Kd(f g:Form)(hf:FS f)(hg:FS g):(s9 f g).run=some (IZ f g):=by
 have hn:=hf.n
 unfold s9 IZ
 by_cases c1:f.1.length=g.1.length
 case neg=>rw[za (by rw[bne_iff_ne.2 (show((f.1.length:Nat):Int)≠(g.1.length:Int) by omega)]; rfl),z7,fY Bh c1]; rfl
 by_cases c2:f.2.1.length=g.2.1.length
 case neg=>rw[za (by rw[bne_iff_ne.2 (show((f.2.1.length:Nat):Int)≠(g.2.1.length:Int) by omega),Bool.true_or,Bool.or_true]),z7,fY KV c2,Bool.false_and,Bool.and_false]
 by_cases c3:f.2.2.1.length=g.2.2.1.length
 case neg=>rw[za (by rw[bne_iff_ne.2 (show((f.2.2.1.length:Nat):Int)≠(g.2.2.1.length:Int) by omega),Bool.true_or,Bool.or_true,Bool.or_true]),z7,fY Hn c3,Bool.false_and,Bool.and_false,Bool.and_false]
 by_cases c4:f.2.2.2.1.length=g.2.2.2.1.length
 case neg=>rw[za (by rw[bne_iff_ne.2 (show((f.2.2.2.1.length:Nat):Int)≠(g.2.2.2.1.length:Int) by omega),Bool.or_true,Bool.or_true,Bool.or_true]),z7,fY Gz c4,Bool.false_and,Bool.and_false,Bool.and_false,Bool.and_false]
 have l0:(X3 f g 0).run=some (if b5 Bh f.1 g.1=true then .inl ()else .inr false):=by
  refine eF (r:=c7 f g) f.1 g.1 (zn zu) Bh c1 (λk x y hk hx hy mx my => ?_) ?_
  ·unfold c7
   rw[za (vX hk),zb (zH hk),zb (zH (by omega)),hx,hy]
   show(T.ite (!Bh x y) _ _).run=_
   cases Bh x y with
   | false=>rfl
   | true=>rw[z8 (by rfl),z7,fx k _ hk (by omega)]; rfl
  ·unfold c7
   simp
 have l1:(QC f g 0).run=some (if b5 KV f.2.1 g.2.1=true then .inl ()else .inr false):=by
  refine eF (r:=bW f g) f.2.1 g.2.1 (zn zD) KV c2 (λk x y hk hx hy mx my => ?_) ?_
  ·unfold bW
   have i2:q9 (k:Int) g.2.1.length:=zH (by omega)
   rw[za (vX hk),hx,hy]
   refine(z6 (a := !KV x y) ?_ _).trans ?_
   ·rw[zb (zH hk),zb i2]
    unfold KV
    cases zi x.1 y.1 with
    | false=>rfl
    | true=>rw[z8 (by rfl),zb (zH hk),zb i2,z6 (tW _ _ (hf.p x mx).2 (hg.p y my).2),z7]; rfl
   ·cases KV x y with
    | false=>rfl
    | true=>rw[z8 (by rfl),z7,fx k _ hk (by omega)]; rfl
  ·unfold bW
   simp
 have l2:(Qg f g 0).run=some (if b5 Hn f.2.2.1 g.2.2.1=true then .inl ()else .inr false):=by
  refine eF (r:=bD f g) f.2.2.1 g.2.2.1 (zn zO) Hn c3 (λk x y hk hx hy mx my => ?_) ?_
  ·unfold bD
   rw[za (vX hk),zb (zH hk),zb (zH (by omega)),hx,hy]
   show(T.ite (!Hn x y) _ _).run=_
   cases Hn x y with
   | false=>rfl
   | true=>rw[z8 (by rfl),z7,fx k _ hk (by omega)]; rfl
  ·unfold bD
   rw[z8 (oz _),z7]
 have l3:(QA f g 0).run=some (if b5 Gz f.2.2.2.1 g.2.2.2.1=true then .inl ()else .inr false):=by
  refine eF (r:=c8 f g) f.2.2.2.1 g.2.2.2.1 (zn zw) Gz c4 (λk x y hk hx hy mx my => ?_) ?_
  ·unfold c8
   rw[za (vX hk),zb (zH hk),zb (zH (by omega)),hx,hy]
   show(T.ite (!Gz x y) _ _).run=_
   cases Gz x y with
   | false=>rw[za (by rfl),z7]; rfl
   | true=>rw[z8 (by rfl),z7,fx k _ hk (by omega)]; rfl
  ·unfold c8
   rw[z8 (oz _),z7]
 rw[z8 (by rw[c1,c2,c3,c4]; simp),z6 l0]
 cases b5 Bh f.1 g.1 with
 | false=>rfl
 | true =>
  rw[if_pos rfl,Sum.elim_inl,z6 l1,Bool.true_and]
  cases b5 KV f.2.1 g.2.1 with
  | false=>rfl
  | true =>
   rw[if_pos rfl,Sum.elim_inl,z6 l2,Bool.true_and]
   cases b5 Hn f.2.2.1 g.2.2.1 with
   | false=>rfl
   | true =>
    rw[if_pos rfl,Sum.elim_inl,z6 l3,Bool.true_and]
    cases b5 Gz f.2.2.2.1 g.2.2.2.1 with
    | false=>rfl
    | true =>
     rw[if_pos rfl,Sum.elim_inl,z6 (Ky _ _ (by omega) (λx hx=>(hf.r x hx).2.2) (λx hx=>(hg.r x hx).2.2)),Bool.true_and]
     cases b5 Vm f.2.2.2.2.1 g.2.2.2.2.1 with
     | false=>rfl
     | true=>rw[zk,z6 (Ur _ _ (by omega) (λx hx=>(hf.c x hx).2) (λx hx=>(hg.c x hx).2)),z7]; rfl
theorem EW(a:Rat):mr a a=true:=by
 have:=cH (.mk 0 a [] [])
 have h:((0:Int)==0&&(zi ([]:zd) []&&(mr a a&&sameEs [] [])))=true:=this
 grind
theorem EC(f:Form):IZ f f=true:=by
 unfold IZ
 rw[cL Bh,cL KV,cL Hn,cL Gz,cL Vm,cL Uz]
 ·rfl
 all_goals intro x _
 ·unfold Uz; rw[jl,beq_self_eq_true,beq_self_eq_true,cH,cH]; rfl
 ·unfold Vm; rw[jl,beq_self_eq_true,jl,cH,cH]; rfl
 ·unfold Gz; rw[jl,beq_self_eq_true,beq_self_eq_true,beq_self_eq_true]; rfl
 ·unfold Hn; rw[jl,jl]; rfl
 ·unfold KV; rw[jl,EW]; rfl
 ·unfold Bh; rw[jl,beq_self_eq_true]; rfl
def iM:Expr:=.mk 1 (oe [50]) [] []
theorem Ct(d:Nat)(hd:d<32):uw d iM=true:=by
 have h:gP (.mk 1 (oe [50]) [] [])=true:=by
  show((((0:Nat):Int)==pG 1)&&(if(1:Int)=1 then yr (oe [50])&&zi [] []else _))=true
  rw[if_pos rfl,z1w]
  rfl
 show(decide (d<32)&&(gP (.mk 1 (oe [50]) [] [])&&kY (d+1) []))=true
 rw[h,decide_eq_true hd]; rfl
theorem Tm:Ea iM=true:=by
 unfold Ea
 rw[Ct 0 (by decide)]
 rfl
theorem z1Z:prE iM=[50]:=by
 show(xB (norm (oe [50])).1 (nv (norm (oe [50])).2.1) (nv (norm (oe [50])).2.2.1) 0 61).1=[50]
 rw[T1,z0k]
 show(xB false 2 1 0 61).1=[50]
 unfold xB
 rw[if_pos (by decide)]
 unfold Ow pr
 rw[if_pos rfl,if_neg (by decide),sd (by decide),show 2 / 10=0 from rfl,pX]
 rfl
theorem z36:qB [97]=(Kl [97],((0:Int),(0:Int))):=by rfl
theorem z2l:qB [50]=(iM,((0:Int),(0:Int))):=by
 have h:ik qo [50]=.ok iM [] false:=by kernel_rfl
 unfold qB
 rw[h]
 unfold Ci pY
 rw[if_neg (by decide),Tm,if_neg (by simp)]
theorem Sh:qp [97,61,50]=(Kl [97],(iM,((0:Int),(0:Int)))):=by
 have h:gN [97,61,50]=some ([97],0,[50]):=rfl
 unfold qp
 rw[h]
 dsimp only
 rw[z36,z2l]
 rfl
def knS:zd:=[112,97,103,101,32,112,10,102,105,101,108,100,32,32,97,32,109,117,115,116,10,114,117,108,101,32,119,101,97,107,32,114,58,97,61,50,10]
def knF:oo:=([],[],[([112],([],()))],[([97],(0,(true,(0,()))))],[([114],(3,([],(Kl [97],(iM,())))))],[])
theorem C1:jP (ju 10 knS) qR 0=.inr knF:=by
 have e:ju 10 knS=[[112,97,103,101,32,112],[102,105,101,108,100,32,32,97,32,109,117,115,116],[114,117,108,101,32,119,101,97,107,32,114,58,97,61,50],[]]:=by decide +kernel
 have l1:vr 0 [112,97,103,101,32,112]=(0,[],[],[([112],([],()))],[],[],[]):=rfl
 have l2:vr 1 [102,105,101,108,100,32,32,97,32,109,117,115,116]=(0,[],[],[],[([97],(0,(true,(0,()))))],[],[]):=rfl
 have l3:vr 1 [114,117,108,101,32,119,101,97,107,32,114,58,97,61,50]=(0,[],[],[],[],[([114],(3,([],(Kl [97],(iM,())))))],[]):=by
  have:vr 1 [114,117,108,101,32,119,101,97,107,32,114,58,97,61,50]=WD [[114,117,108,101],[119,101,97,107],[114]] [97,61,50]:=rfl
  rw[this]
  unfold WD
  rw[Sh]
  rfl
 rw[e]
 unfold jP
 rw[show vr qR.2.2.1.length [112,97,103,101,32,112]=_ from l1,if_pos rfl]
 unfold jP
 rw[show vr (pV qR (([],[],[([112],([],()))],[],[],[]):oo)).2.2.1.length [102,105,101,108,100,32,32,97,32,109,117,115,116]=_ from l2,if_pos rfl]
 unfold jP
 rw[show vr (pV (pV qR (([],[],[([112],([],()))],[],[],[]):oo)) (([],[],[],[([97],(0,(true,(0,()))))],[],[]):oo)).2.2.1.length [114,117,108,101,32,119,101,97,107,32,114,58,97,61,50]=_ from l3,if_pos rfl]
 rfl
theorem ZO{s:zd}(h:s.length<=600){S:oo}(hl:jP (ju 10 s) qR 0=.inr S):FS (GM S):=by
 obtain⟨g,ht⟩:=UN _ _ _ _ hl z5w
 have:=Bl 10 s
 have h0:Eb qR=0:=rfl
 exact⟨by rw[h0]at ht; unfold Eb at ht; show S.1.length+S.2.1.length+S.2.2.1.length+S.2.2.2.1.length+S.2.2.2.2.1.length+S.2.2.2.2.2.length<=601; omega,g.s,g.p,g.g,g.d,g.r,g.c⟩
def knT:zd:=[112,97,103,101,32,112,10,102,105,101,108,100,32,97,32,109,117,115,116,10,114,117,108,101,32,119,101,97,107,32,114,32,58,32,97,32,61,32,50,10]
theorem L0:frS (GM knF)=knT:=by
 have h1:Sv (Kl [97]) [61] iM=[32,58,32,97,32,61,32,50,10]:=by
  unfold Sv
  rw[z1Z]
  rfl
 have h2:Ey ([114],(3,([],(Kl [97],(iM,())))))=[114,117,108,101,32,119,101,97,107,32,114,32,58,32,97,32,61,32,50,10]:=by
  unfold Ey
  rw[h1]
  rfl
 show([]++[]++(List.range 1).flatMap (Nq (GM knF))++(Ey ([114],(3,([],(Kl [97],(iM,())))))++[]))=_
 rw[h2]
 rfl
theorem TE:Vk (GM knF)=true:=by
 have h6:a6 (GM knF)=true:=by
  show(!(Z3 ([114],(3,([],(Kl [97],(iM,())))))||false))=true
  have:Z3 ([114],(3,([],(Kl [97],(iM,())))))=false:=by
   show(!(zT [114])||(!(oQ [])||(false||(false||(!(uw 0 (Kl [97])) || !(uw 0 iM))))))=false
   rw[Ct 0 (by decide)]
   rfl
  grind
 unfold Vk
 rw[h6,L0]
 rfl
theorem Im:mX.run=some true:=by
 have hp:(ko knS).run=some (GM knF,((0:Int),(0:Int))):=by
  rw[nR knS (λS h=>ZO (by decide) h)]
  unfold cu
  rw[if_neg (by decide),C1]
  dsimp only
  rw[TE]
  rfl
 have hF:FS (GM knF):=ZO (s:=knS) (by decide) C1
 have hp2:(iH (GM knF)).run=some knT:=by
  unfold iH
  rw[z6 (X7 _ hF),TE,z8 (by rfl)]
  have h:=TE
  unfold Vk at h
  simp at h
  rw[z6 (od _ (Sl hF h.2.2.2.1 h.2.2.2.2.1 h.2.2.2.2.2.1)),z7,L0]
 unfold mX
 rw[show([112,97,103,101,32,112,10,102,105,101,108,100,32,32,97,32,109,117,115,116,10,114,117,108,101,32,119,101,97,107,32,114,58,97,61,50,10]:zd)=knS from rfl,z6 hp]
 rw[za (by rfl),za (by rfl),z6 hp2,z7]
 rfl
theorem IA:FS noF:=⟨by decide,(λ_ h=>by cases h),(λ_ h=>by cases h),(λ_ h=>by cases h),(λ_ h=>by cases h),(λ_ h=>by cases h),(λ_ h=>by cases h)⟩
theorem Oh{s:zd}(h:s.length<=600):FS (cu s).1:=by
 unfold cu
 split
 ·grind
 ·split
  ·exact IA
  ·rename_i S hS
   split
   ·exact ZO h hS
   ·exact IA
theorem p7(s:zd):(kW s).run=some true:=by
 unfold kW
 by_cases c:600<s.length
 ·rw[za (decide_eq_true (by omega)),z7]
 ·have hF:∀ S,jP (ju 10 s) qR 0=.inr S->FS (GM S):=λS h=>ZO (by omega) h
  have hfs:=Oh (s:=s) (by omega)
  have h1:(ko s).run=some ((cu s).1,((cu s).2.1,(cu s).2.2)):=nR s hF
  have h2:(fJ s).run=some ((cu s).1,((cu s).2.1,(cu s).2.2)):=K3 s hF
  rw[z8 (decide_eq_false (by omega)),z6 h1]
  rw[z6 h2]
  rw[z6 (Kd _ _ hfs hfs),EC,zk,za (beq_self_eq_true _),za (beq_self_eq_true _),z6 Im,z7]
theorem oD(x:Kr [.str])(hw:wfL [.str] x)(hb:bkL [.str] x<=1048576):(kW (Rp [.str] x)).run=some true:=p7 x.1
end Go.AM.Lf
