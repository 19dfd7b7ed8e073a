/-
  Plain laws of the lifted program, part 3.
-/
import Derived.Test.YthhgaidlooddpaaGreatDoorLf0
import Derived.Test.YthhgaidlooddpaaGreatDoorAmA
import Derived.Test.YthhgaidlooddpaaGreatDoorAmD
import Derived.Test.YthhgaidlooddpaaGreatDoorQ0
import Derived.Test.YthhgaidlooddpaaGreatDoorQ1
import Derived.Test.YthhgaidlooddpaaGreatDoorQ2
set_option linter.unusedVariables false
open Go.AM.T (Rw SN qu z01 z6 z6X z7 z7Z z8 zL za zb zf zk zm)
namespace Go.AM.Lf
open PL
theorem gX(c b:UInt8)(r:zd):vf c (b::r)=if b=c then[]::vf c r else C8 b (vf c r):=rfl
theorem z0a(c:UInt8):∀ (l r:zd),(∀ b∈l,b≠c)->vf c (l++c::r)=l::vf c r
 | [],r,_=>by
  show vf c (c::r)=_
  rw[gX,if_pos rfl]
 | b::l,r,h=>by
  show vf c (b::(l++c::r))=_
  rw[gX,if_neg (h b List.mem_cons_self),z0a c l r λx hx=>h x (List.mem_cons_of_mem _ hx)]
  rfl
theorem Xn(c:UInt8):∀ (l:zd),(∀ b∈l,b≠c)->vf c l=[l]
 | [],_=>rfl
 | b::l,h=>by
  rw[gX,if_neg (h b List.mem_cons_self),Xn c l λx hx=>h x (List.mem_cons_of_mem _ hx)]
  rfl
def eT(S:iv):List Switch×List Switch×List Param×List Param×List qq×List qq×List Field×List Field×List Check×List Check×List qk×List qk :=
 ([],(S.1,([],(S.2.1,([],(S.2.2.1,([],(S.2.2.2.1,([],(S.2.2.2.2.2,([],S.2.2.2.2.1)))))))))))
theorem Nq(s:zd)(hs:s.length<=80000)(a i k:Nat)(S:iv)(ha:a<=i)(hi:i<=s.length)(hk:k<=1000000)(ht:En S<=1000000)(hc:(decide ((i:Int)<((s.length:Nat):Int))&&(zt s (i:Int) != (10:Int)))=false)(line:zd)(DF:qz (a:Int) (i:Int) s=line) :
  ((xL S.2.2.1.length line).1=0->(wm s ((a:Int),(((k+1:Nat):Int),((i:Int),((),((),eT S)))))).run=some (.inl (((i+1:Nat):Int),(((k+2:Nat):Int),(((i+1:Nat):Int),((),((),eT (nL S (xL S.2.2.1.length line).2)))))))) /\
  ((xL S.2.2.1.length line).1≠0->∃ Z,(wm s ((a:Int),(((k+1:Nat):Int),((i:Int),((),((),eT S)))))).run=some (.inr (.inr (((k+1:Nat):Int),((xL S.2.2.1.length line).1,(noF,Z)))))):=by
 have hle:line.length<=s.length:=by
  rw[<- DF,vP,List.length_drop,List.length_take]; omega
 have ni:=sx 32 line []
 have hwi:zI ((i:Int)+1)=((i+1:Nat):Int):=by rw[zA (by omega) (by omega)]; omega
 have hwk:zI (((k+1:Nat):Int)+1)=((k+2:Nat):Int):=by rw[zA (by omega) (by omega)]; omega
 have pre:∀ (w:List zd),xP 32 [] line=w->((decide ((0:Int)<(Nat.cast (List.length w):Int)))=true)->((q9 (0:Int) (List.length w))/\(q9 (0:Int) (List.length (nth w (0:Int) (zn .str))))):=by
  intro w hw h
  cases w with
  | nil=>cases h
  | cons x r =>
   rw[hw]at ni
   have:=(ni x List.mem_cons_self).1
   exact⟨te (by simp),te (show 0<x.length from List.length_pos_iff.2 this)⟩
 have EC:nL S qI=S:=by
  show hH S.1 S.2.1 S.2.2.1 S.2.2.2.1 S.2.2.2.2.1 S.2.2.2.2.2 qI=S
  rw[kh]
 cases hw:xP 32 [] line with
 | nil =>
  have e:=W0 S.2.2.1.length line hw
  rw[e]
  refine⟨λ_ => ?_,λh=>absurd rfl h⟩
  unfold wm eT
  dsimp only
  rw[za (decide_eq_true (by omega)),zb (λh=>zG (by have:=of_decide_eq_true h; omega)),hc,zf,zb (xG.2 ⟨by omega,by omega,by omega⟩),DF,z6 (mG line (by omega)),hw]
  refine(z6 (a:=.inl ((),((),eT S))) ?_ _).trans ?_
  ·rw[zb (pre [] hw),z8 (by rfl)]
   simp only[zl,T.zg,zm,z7]
   rfl
  ·rw[Sum.elim_inl]
   unfold eT
   dsimp only
   simp only[zl,T.zg,zm,z7]
   grind
 | cons x r =>
  have e:=Ch S.2.2.1.length line x r hw
  have hx:=(ni x (by rw[hw]; exact List.mem_cons_self)).1
  have Km:(decide ((0:Int)<(Nat.cast (List.length (x::r)):Int))&&(zt (nth (x::r) (0:Int) (zn .str)) (0:Int) != (35:Int))) = !tI x:=by
   cases x with
   | nil=>grind
   | cons b q =>
    have:=bc b 35
    rw[decide_eq_true (by rw[List.length_cons]; omega),Bool.true_and]
    show(!(((b.toNat:Nat):Int)==(((35:UInt8).toNat:Nat):Int))) = !decide (b=35)
    rw[this]
  cases hh:tI x with
  | true =>
   rw[hh,if_pos rfl]at e
   rw[e]
   refine⟨λ_ => ?_,λh=>absurd rfl h⟩
   unfold wm eT
   dsimp only
   rw[za (decide_eq_true (by omega)),zb (λh=>zG (by have:=of_decide_eq_true h; omega)),hc,zf,zb (xG.2 ⟨by omega,by omega,by omega⟩),DF,z6 (mG line (by omega)),hw]
   refine(z6 (a:=.inl ((),((),eT S))) ?_ _).trans ?_
   ·rw[zb (pre _ hw),Km,hh,z8 (by rfl)]
    simp only[zl,T.zg,zm,z7]
    rfl
   ·rw[Sum.elim_inl]
    unfold eT
    dsimp only
    simp only[zl,T.zg,zm,z7]
    rw[hwi,hwk,EC]
  | false =>
   rw[hh,if_neg (by decide)]at e
   rw[e]
   obtain⟨D,g1,g2⟩:=DC line (by omega) (x::r) (by simp) (λy hy=>by have:=(ni y (by rw[hw]; exact hy)).2; simp only[List.length_nil]at this; omega) S.1 S.2.1 S.2.2.1 S.2.2.2.1 S.2.2.2.2.1 S.2.2.2.2.2 (TP ht)
   refine⟨λh0 => ?_,λh0 => ?_⟩
   ·have hD:=g2 h0
    subst hD
    unfold wm eT
    dsimp only
    rw[za (decide_eq_true (by omega)),zb (λh=>zG (by have:=of_decide_eq_true h; omega)),hc,zf,zb (xG.2 ⟨by omega,by omega,by omega⟩),DF,z6 (mG line (by omega)),hw]
    refine(z6 (a:=.inl ((),((),eT (nL S (KA S.2.2.1.length line (x::r)).2)))) ?_ _).trans ?_
    ·rw[zb (pre _ hw),Km,hh,za (by rfl),zb (xG.2 ⟨by omega,by omega,by omega⟩)]
     simp only[zl,T.zg,zm]
     rw[z6 g1,h0]
     unfold hH
     dsimp only
     rw[z8 (by rfl)]
     simp only[zl,T.zg,zm,z7]
     rfl
    ·rw[Sum.elim_inl]
     unfold eT
     dsimp only
     simp only[zl,T.zg,zm,z7]
     rw[hwi,hwk]
   ·refine⟨((),eT (nL S D)),?_⟩
    unfold wm eT
    dsimp only
    rw[za (decide_eq_true (by omega)),zb (λh=>zG (by have:=of_decide_eq_true h; omega)),hc,zf,zb (xG.2 ⟨by omega,by omega,by omega⟩),DF,z6 (mG line (by omega)),hw]
    refine(z6 (a:=.inr (((k+1:Nat):Int),((KA S.2.2.1.length line (x::r)).1,(noF,((),eT (nL S D)))))) ?_ _).trans ?_
    ·rw[zb (pre _ hw),Km,hh,za (by rfl),zb (xG.2 ⟨by omega,by omega,by omega⟩)]
     simp only[zl,T.zg,zm]
     rw[z6 g1]
     unfold hH
     dsimp only
     rw[za (by simpa using h0)]
     simp only[zl,T.zg,zm,z7]
     rfl
    ·rw[Sum.elim_inr]
     unfold eT
     dsimp only
     simp only[zl,T.zg,zm,z7]
theorem Sr(s:zd)(hs:s.length<=80000):∀ (m a i k:Nat) (S:iv),i+m=s.length+1->a<=i->i<=s.length->k<=a->En S<=k->(∀ b∈(s.take i).drop a,b≠10) ->
  ∃ R,(lK s ((a:Int),(((k+1:Nat):Int),((i:Int),((),((),eT S)))))).run=some R/\(match qT (vf 10 (s.drop a)) S k with
   | .inl (n,e)=>∃ Z,R=.inr ((n:Int),(e,(noF,Z)))
   | .inr S'=>R=.inl ((),((),eT S'))):=by
 intro m
 induction m with
 | zero=>grind
 | succ m ih =>
  intro a i k S h1 h2 h3 h4 h5 h6
  have cx:qz (a:Int) (i:Int) s=(s.take i).drop a:=vP s a i
  have z8s:s.drop a=(s.take i).drop a++s.drop i:=by
   conv=>lhs; rw[<- List.take_append_drop i s]
   grind
  by_cases c:i<s.length/\s[i]! ≠ 10
  ·obtain⟨c1,c2⟩:=c
   have c2:s[i]≠10:=by rwa [getElem!_pos s i c1]at c2
   obtain⟨R,r1,r2⟩:=ih a (i+1) k S (by omega) (by omega) (by omega) h4 h5 (λb hb=>by
    rw[List.take_succ_eq_append_getElem c1,List.drop_append_of_le_length (by rw[List.length_take]; omega)]at hb
    rcases List.mem_append.1 hb with hb | hb
    ·exact h6 b hb
    ·rw[List.mem_singleton.1 hb]; exact c2)
   refine⟨R,(qu (s':=((a:Int),(((k+1:Nat):Int),(((i+1:Nat):Int),((),((),eT S)))))) ?_).trans r1,r2⟩
   unfold wm eT
   dsimp only
   have hq:((((s[i].toNat:Nat):Int))==(10:Int))=decide (s[i]=10):=bc s[i] 10
   rw[za (decide_eq_true (by omega)),zb (λ_=>zG c1),byte_at c1,za (by rw[decide_eq_true (by omega),bne,hq,decide_eq_false c2]; rfl)]
   simp only[zl,T.zg,zm,z7]
   rw[eS i _ c1 (by omega)]
  ·have hc:(decide ((i:Int)<((s.length:Nat):Int))&&(zt s (i:Int) != (10:Int)))=false:=by
    by_cases c1:i<s.length
    ·have c2:s[i]=10:=Classical.byContradiction λh=>c ⟨c1,by rwa [getElem!_pos s i c1]⟩
     rw[byte_at c1,c2]
     exact Bool.and_false _
    ·rw[decide_eq_false (by omega)]; rfl
   obtain⟨b1,b2⟩:=Nq s hs a i k S h2 h3 (by omega) (by omega) hc _ cx
   have mb:vf 10 (s.drop a)=(s.take i).drop a::(if i<s.length then vf 10 (s.drop (i+1))else[]):=by
    rw[z8s]
    by_cases c1:i<s.length
    ·have c2:s[i]=10:=Classical.byContradiction λh=>c ⟨c1,by rwa [getElem!_pos s i c1]⟩
     rw[if_pos c1,List.drop_eq_getElem_cons c1,c2,z0a 10 _ _ h6]
    ·rw[if_neg c1,show s.drop i=[]from List.drop_of_length_le (by omega),List.append_nil,Xn 10 _ h6]
   rw[mb]
   generalize (s.take i).drop a=line at b1 b2 ⊢
   unfold qT
   by_cases e:(xL S.2.2.1.length line).1=0
   ·rw[if_pos e]
    obtain⟨a1,a2⟩:=W8 S.2.2.1.length line
    by_cases c1:i<s.length
    ·rw[if_pos c1]
     obtain⟨R,r1,r2⟩:=ih (i+1) (i+1) (k+1) (nL S (xL S.2.2.1.length line).2) (by omega) (Nat.le_refl _) (by omega) (by omega) (by rw[Bb]; omega) (λb hb=>by
      rw[List.drop_of_length_le (by rw[List.length_take]; omega)]at hb; cases hb)
     exact⟨R,(qu (b1 e)).trans r1,r2⟩
    ·rw[if_neg c1]
     refine⟨.inl ((),((),eT (nL S (xL S.2.2.1.length line).2))),(qu (b1 e)).trans (zL ?_),rfl⟩
     unfold wm eT
     dsimp only
     rw[z8 (decide_eq_false (by omega))]
     simp only[zl,T.zg,zm,z7]
   ·rw[if_neg e]
    obtain⟨Z,hZ⟩:=b2 e
    exact⟨.inr (((k+1:Nat):Int),((xL S.2.2.1.length line).1,(noF,Z))),zL hZ,Z,rfl⟩
theorem UA(s:zd)(hF:∀ S,qT (vf 10 s) qI 0=.inr S->FS (Jl S)):(eW s).run=some (yx s):=by
 unfold eW yx
 by_cases hs:16384<s.length
 ·rw[if_pos hs,za (decide_eq_true (by omega)),z7]
  rfl
 ·rw[if_neg hs,z8 (decide_eq_false (by omega))]
  obtain⟨R,r1,r2⟩:=Sr s (by omega) (s.length+1) 0 0 0 qI (by omega) (Nat.le_refl _) (Nat.zero_le _) (Nat.le_refl _) (Nat.le_refl _) (λb hb=>by cases hb)
  rw[List.drop_zero]at r2
  have r1:(lK s ((0:Int),((1:Int),((0:Int),((),((),(([]:List Switch),(([]:List Switch),(([]:List Param),(([]:List Param),(([]:List qq),(([]:List qq),(([]:List Field),(([]:List Field),(([]:List Check),(([]:List Check),(([]:List qk),([]:List qk)))))))))))))))))).run=some R:=r1
  simp only[zl,T.zg,zm]
  rw[z6 r1]
  cases q:qT (vf 10 s) qI 0 with
  | inl p =>
   obtain⟨n,e⟩:=p
   rw[q]at r2
   obtain⟨Z,rfl⟩:=r2
   rfl
  | inr S =>
   rw[q]at r2
   rw[r2,Sum.elim_inl]
   unfold eT
   simp only[MP,zl,T.zg,zm]
   have hI:(Xb (S.1,(S.2.1,(S.2.2.1,(S.2.2.2.1,(S.2.2.2.2.1,(S.2.2.2.2.2,()))))))).run=some (Xh (Jl S)):=Dv (Jl S) (hF S q)
   rw[z6 hI]
   cases Xh (Jl S)with
   | false=>rfl
   | true =>
    rw[z8 (by rfl)]
    simp only[zl,T.zg,zm,z7]
    rfl
def bA{α:Type}(p:α->α->Bool):List α->List α->Bool
 | [],[]=>true
 | x::l,y::m=>p x y&&bA p l m
 | _,_=>false
theorem fZ{α:Type}(p:α->α->Bool):∀ {l m:List α},l.length≠m.length->bA p l m=false
 | [],[],h=>absurd rfl h
 | [],_::_,_=>rfl
 | _::_,[],_=>rfl
 | x::l,y::m,h=>by
  show(p x y&&bA p l m)=false
  rw[fZ p (l:=l) (m:=m) (λe=>h (by grind)),Bool.and_false]
theorem cD{α:Type}(p:α->α->Bool):∀ {l:List α},(∀ x∈l,p x x=true)->bA p l l=true
 | [],_=>rfl
 | x::l,h=>by
  show(p x x&&bA p l l)=true
  rw[h x List.mem_cons_self,cD p λy hy=>h y (List.mem_cons_of_mem _ hy)]; rfl
theorem eI{α:Type}(l m:List α)(d:α)(p:α->α->Bool)(hlen:l.length=m.length){r:Int->T (Int⊕(Unit⊕Bool))}
  (step:∀ (k:Nat) (x y:α),k<l.length->nth l (k:Int) d=x->nth m (k:Int) d=y->x∈l->y∈m->(r (k:Int)).run=some (if p x y=true then .inl ((k+1:Nat):Int)else .inr (.inr false)))
  (done:(r (l.length:Int)).run=some (.inr (.inl ()))):(T.loop r 0).run=some (if bA p l m=true then .inl ()else .inr false):=by
 have key:∀ (n k:Nat),k+n=l.length->(T.loop r (k:Int)).run=some (if bA p (l.drop k) (m.drop k)=true then .inl ()else .inr false):=by
  intro n
  induction n with
  | zero =>
   intro k hk
   have:k=l.length:=by omega
   subst this
   rw[List.drop_length,List.drop_of_length_le (by omega)]
   exact zL done
  | succ n ih =>
   intro k hk
   have h1:k<l.length:=by omega
   have h2:k<m.length:=by omega
   rw[List.drop_eq_getElem_cons h1,List.drop_eq_getElem_cons h2]
   have hs:=step k l[k] m[k] h1 (bV h1 d) (bV h2 d) (List.getElem_mem h1) (List.getElem_mem h2)
   show _=some (if(p l[k] m[k]&&bA p (l.drop (k+1)) (m.drop (k+1)))=true then _ else _)
   cases hp:p l[k] m[k]with
   | true =>
    rw[hp,if_pos rfl]at hs
    rw[Bool.true_and]
    exact(qu hs).trans (ih (k+1) (by omega))
   | false =>
    rw[hp,if_neg (by decide)]at hs
    rw[Bool.false_and,if_neg (by decide)]
    exact zL hs
 have:=key l.length 0 (by omega)
 rwa [List.drop_zero,List.drop_zero]at this
def GL(x y:Switch):Bool:=zi x.1 y.1&&((x.2.1==y.2.1)&&true)
def Y9(x y:Param):Bool:=zi x.1 y.1&&mI x.2.1 y.2.1
def Bw(x y:qq):Bool:=zi x.1 y.1&&(zi x.2.1 y.2.1&&true)
def HW(x y:Field):Bool:=zi x.1 y.1&&((x.2.1==y.2.1)&&((x.2.2.1==y.2.2.1)&&((x.2.2.2.1==y.2.2.2.1)&&true)))
def Vi(x y:qk):Bool:=zi x.1 y.1&&((x.2.1==y.2.1)&&(zi x.2.2.1 y.2.2.1&&(sameE x.2.2.2.1 y.2.2.2.1&&sameE x.2.2.2.2.1 y.2.2.2.2.1)))
def Jp(x y:Check):Bool:=zi x.1 y.1&&((x.2.1==y.2.1)&&((x.2.2.1==y.2.2.1)&&(sameE x.2.2.2.1 y.2.2.2.1&&sameE x.2.2.2.2.1 y.2.2.2.2.1)))
def MX(f g:Form):Bool:=bA GL f.1 g.1&&(bA Y9 f.2.1 g.2.1&&(bA Bw f.2.2.1 g.2.2.1&&(bA HW f.2.2.2.1 g.2.2.2.1&&(bA Vi f.2.2.2.2.1 g.2.2.2.2.1&&bA Jp f.2.2.2.2.2.1 g.2.2.2.2.2.1))))
theorem Ko(a b:List qk)(ha:a.length<=1000)(h1:∀ x∈a,uS x.2.2.2.1/\uS x.2.2.2.2.1)(h2:∀ x∈b,uS x.2.2.2.1/\uS x.2.2.2.2.1):(br a b).run=some (bA Vi a b):=by
 unfold br
 by_cases c:a.length=b.length
 ·have key:(iW a b 0).run=some (if bA Vi a b=true then .inl ()else .inr false):=by
   refine eI (r:=uO a b) a b (zn zY) Vi c (λk x y hk hx hy mx my => ?_) ?_
   ·obtain⟨x1,x2⟩:=h1 x mx
    obtain⟨y1,y2⟩:=h2 y my
    have i1:=zG hk
    have i2:q9 (k:Int) b.length:=zG (by omega)
    unfold uO
    rw[za (vQ hk),hx,hy]
    refine(z6 (a := !Vi x y) ?_ _).trans ?_
    ·rw[zb i1,zb i2]
     unfold Vi
     cases zi x.1 y.1 with
     | false=>rfl
     | true =>
      rw[z8 (by rfl),zb i1,zb i2,bne]
      cases(x.2.1==y.2.1)with
      | false=>rfl
      | true =>
       rw[z8 (by rfl),zb i1,zb i2]
       cases zi x.2.2.1 y.2.2.1 with
       | false=>rfl
       | true =>
        rw[z8 (by rfl),zb i1,zb i2,z6 (cQ _ _ x1.2.2 y1.2.2 (by have:=x1.2.1; omega))]
        cases sameE x.2.2.2.1 y.2.2.2.1 with
        | false=>rfl
        | true =>
         rw[z8 (by rfl),zb i1,zb i2,z6 (cQ _ _ x2.2.2 y2.2.2 (by have:=x2.2.1; omega)),z7]; rfl
    ·cases Vi x y with
     | false=>rfl
     | true=>rw[z8 (by rfl),z7,eS k _ hk (by omega)]; rfl
   ·unfold uO
    simp
  rw[z8 (by rw[c,bne_self_eq_false]),z6 key]
  cases bA Vi a b<;>rfl
 ·rw[za (by rw[bne_iff_ne]; omega),z7,fZ Vi c]
theorem UY(a b:List Check)(ha:a.length<=1000)(h1:∀ x∈a,uS x.2.2.2.1/\uS x.2.2.2.2.1)(h2:∀ x∈b,uS x.2.2.2.1/\uS x.2.2.2.2.1):(yZ a b).run=some (bA Jp a b):=by
 unfold yZ
 by_cases c:a.length=b.length
 ·have key:(fI a b 0).run=some (if bA Jp a b=true then .inl ()else .inr false):=by
   refine eI (r:=uf a b) a b (zn zF) Jp c (λk x y hk hx hy mx my => ?_) ?_
   ·obtain⟨x1,x2⟩:=h1 x mx
    obtain⟨y1,y2⟩:=h2 y my
    have i1:=zG hk
    have i2:q9 (k:Int) b.length:=zG (by omega)
    unfold uf
    rw[za (vQ hk),hx,hy]
    refine(z6 (a := !Jp x y) ?_ _).trans ?_
    ·rw[zb i1,zb i2]
     unfold Jp
     cases zi x.1 y.1 with
     | false=>rfl
     | true =>
      rw[z8 (by rfl),zb i1,zb i2,bne]
      cases(x.2.1==y.2.1)with
      | false=>rfl
      | true =>
       rw[z8 (by rfl),zb i1,zb i2,bne]
       cases(x.2.2.1==y.2.2.1)with
       | false=>rfl
       | true =>
        rw[z8 (by rfl),zb i1,zb i2,z6 (cQ _ _ x1.2.2 y1.2.2 (by have:=x1.2.1; omega))]
        cases sameE x.2.2.2.1 y.2.2.2.1 with
        | false=>rfl
        | true =>
         rw[z8 (by rfl),zb i1,zb i2,z6 (cQ _ _ x2.2.2 y2.2.2 (by have:=x2.2.1; omega)),z7]; rfl
    ·cases Jp x y with
     | false=>rfl
     | true=>rw[z8 (by rfl),z7,eS k _ hk (by omega)]; rfl
   ·unfold uf
    simp
  rw[z8 (by rw[c,bne_self_eq_false]),z6 key]
  cases bA Jp a b<;>rfl
 ·rw[za (by rw[bne_iff_ne]; omega),z7,fZ Jp c]
theorem Y7(f g:Form)(hf:FS f)(hg:FS g):(so f g).run=some (MX f g):=by
 have hn:=hf.n
 unfold so MX
 by_cases c1:f.1.length=g.1.length
 case neg=>rw[za (by rw[bne_iff_ne.2 (show((f.1.length:Nat):Int)≠(g.1.length:Int) by omega)]; rfl),z7,fZ GL c1]; rfl
 by_cases c2:f.2.1.length=g.2.1.length
 case neg=>rw[za (by rw[bne_iff_ne.2 (show((f.2.1.length:Nat):Int)≠(g.2.1.length:Int) by omega),Bool.true_or,Bool.or_true]),z7,fZ Y9 c2,Bool.false_and,Bool.and_false]
 by_cases c3:f.2.2.1.length=g.2.2.1.length
 case neg=>rw[za (by rw[bne_iff_ne.2 (show((f.2.2.1.length:Nat):Int)≠(g.2.2.1.length:Int) by omega),Bool.true_or,Bool.or_true,Bool.or_true]),z7,fZ Bw c3,Bool.false_and,Bool.and_false,Bool.and_false]
 by_cases c4:f.2.2.2.1.length=g.2.2.2.1.length
 case neg=>rw[za (by rw[bne_iff_ne.2 (show((f.2.2.2.1.length:Nat):Int)≠(g.2.2.2.1.length:Int) by omega),Bool.or_true,Bool.or_true,Bool.or_true]),z7,fZ HW c4,Bool.false_and,Bool.and_false,Bool.and_false,Bool.and_false]
 have l0:(Q0 f g 0).run=some (if bA GL f.1 g.1=true then .inl ()else .inr false):=by
  refine eI (r:=bP f g) f.1 g.1 (zn zu) GL c1 (λk x y hk hx hy mx my => ?_) ?_
  ·unfold bP
   rw[za (vQ hk),zb (zG hk),zb (zG (by omega)),hx,hy]
   show(T.ite (!GL x y) _ _).run=_
   cases GL x y with
   | false=>rfl
   | true=>rw[z8 (by rfl),z7,eS k _ hk (by omega)]; rfl
  ·unfold bP
   simp
 have l1:(Q4 f g 0).run=some (if bA Y9 f.2.1 g.2.1=true then .inl ()else .inr false):=by
  refine eI (r:=bp f g) f.2.1 g.2.1 (zn zD) Y9 c2 (λk x y hk hx hy mx my => ?_) ?_
  ·unfold bp
   have i2:q9 (k:Int) g.2.1.length:=zG (by omega)
   rw[za (vQ hk),hx,hy]
   refine(z6 (a := !Y9 x y) ?_ _).trans ?_
   ·rw[zb (zG hk),zb i2]
    unfold Y9
    cases zi x.1 y.1 with
    | false=>rfl
    | true=>rw[z8 (by rfl),zb (zG hk),zb i2,z6 (tR _ _ (hf.p x mx).2 (hg.p y my).2),z7]; rfl
   ·cases Y9 x y with
    | false=>rfl
    | true=>rw[z8 (by rfl),z7,eS k _ hk (by omega)]; rfl
  ·unfold bp
   simp
 have l2:(Q5 f g 0).run=some (if bA Bw f.2.2.1 g.2.2.1=true then .inl ()else .inr false):=by
  refine eI (r:=bT f g) f.2.2.1 g.2.2.1 (zn zO) Bw c3 (λk x y hk hx hy mx my => ?_) ?_
  ·unfold bT
   rw[za (vQ hk),zb (zG hk),zb (zG (by omega)),hx,hy]
   show(T.ite (!Bw x y) _ _).run=_
   cases Bw x y with
   | false=>rfl
   | true=>rw[z8 (by rfl),z7,eS k _ hk (by omega)]; rfl
  ·unfold bT
   rw[z8 (oB _),z7]
 have l3:(ZY f g 0).run=some (if bA HW f.2.2.2.1 g.2.2.2.1=true then .inl ()else .inr false):=by
  refine eI (r:=bS f g) f.2.2.2.1 g.2.2.2.1 (zn zw) HW c4 (λk x y hk hx hy mx my => ?_) ?_
  ·unfold bS
   rw[za (vQ hk),zb (zG hk),zb (zG (by omega)),hx,hy]
   show(T.ite (!HW x y) _ _).run=_
   cases HW x y with
   | false=>rw[za (by rfl),z7]; rfl
   | true=>rw[z8 (by rfl),z7,eS k _ hk (by omega)]; rfl
  ·unfold bS
   rw[z8 (oB _),z7]
 rw[z8 (by rw[c1,c2,c3,c4]; simp),z6 l0]
 cases bA GL f.1 g.1 with
 | false=>rfl
 | true =>
  rw[if_pos rfl,Sum.elim_inl,z6 l1,Bool.true_and]
  cases bA Y9 f.2.1 g.2.1 with
  | false=>rfl
  | true =>
   rw[if_pos rfl,Sum.elim_inl,z6 l2,Bool.true_and]
   cases bA Bw f.2.2.1 g.2.2.1 with
   | false=>rfl
   | true =>
    rw[if_pos rfl,Sum.elim_inl,z6 l3,Bool.true_and]
    cases bA HW f.2.2.2.1 g.2.2.2.1 with
    | false=>rfl
    | true =>
     rw[if_pos rfl,Sum.elim_inl,z6 (Ko _ _ (by omega) (λx hx=>(hf.r x hx).2.2) (λx hx=>(hg.r x hx).2.2)),Bool.true_and]
     cases bA Vi f.2.2.2.2.1 g.2.2.2.2.1 with
     | false=>rfl
     | true=>rw[zk,z6 (UY _ _ (by omega) (λx hx=>(hf.c x hx).2) (λx hx=>(hg.c x hx).2)),z7]; rfl
theorem Ih(a:Rat):mI a a=true:=by
 have:=cL (.mk 0 a [] [])
 have h:((0:Int)==0&&(zi ([]:zd) []&&(mI a a&&sameEs [] [])))=true:=this
 grind
theorem FW(f:Form):MX f f=true:=by
 unfold MX
 rw[cD GL,cD Y9,cD Bw,cD HW,cD Vi,cD Jp]
 ·rfl
 all_goals intro x _
 ·unfold Jp; rw[jm,beq_self_eq_true,beq_self_eq_true,cL,cL]; rfl
 ·unfold Vi; rw[jm,beq_self_eq_true,jm,cL,cL]; rfl
 ·unfold HW; rw[jm,beq_self_eq_true,beq_self_eq_true,beq_self_eq_true]; rfl
 ·unfold Bw; rw[jm,jm]; rfl
 ·unfold Y9; rw[jm,Ih]; rfl
 ·unfold GL; rw[jm,beq_self_eq_true]; rfl
def iE:Expr:=.mk 1 (om [50]) [] []
theorem Dg(d:Nat)(hd:d<32):uA d iE=true:=by
 have h:gP (.mk 1 (om [50]) [] [])=true:=by
  show((((0:Nat):Int)==pK 1)&&(if(1:Int)=1 then yr (om [50])&&zi [] []else _))=true
  rw[if_pos rfl,z1e]
  rfl
 show(decide (d<32)&&(gP (.mk 1 (om [50]) [] [])&&y9 (d+1) []))=true
 rw[h,decide_eq_true hd]; rfl
theorem T9:Er iE=true:=by
 unfold Er
 rw[Dg 0 (by decide)]
 rfl
theorem z3j:prE iE=[50]:=by
 show(xC (norm (om [50])).1 (nv (norm (om [50])).2.1) (nv (norm (om [50])).2.2.1) 0 61).1=[50]
 rw[SL,TC]
 show(xC false 2 1 0 61).1=[50]
 unfold xC
 rw[if_pos (by decide)]
 unfold OC pr
 rw[if_pos rfl,if_neg (by decide),si (by decide),show 2 / 10=0 from rfl,rj]
 rfl
theorem z3u:qC [97]=(KM [97],((0:Int),(0:Int))):=by rfl
theorem z2D:qC [50]=(iE,((0:Int),(0:Int))):=by
 have h:iA qm [50]=.ok iE [] false:=by kernel_rfl
 unfold qC
 rw[h]
 unfold E0 pc
 rw[if_neg (by decide),T9,if_neg (by simp)]
theorem Rj:qp [97,61,50]=(KM [97],(iE,((0:Int),(0:Int)))):=by
 have h:gU [97,61,50]=some ([97],0,[50]):=rfl
 unfold qp
 rw[h]
 dsimp only
 rw[z3u,z2D]
 rfl
def knS:zd:=[112,97,103,101,32,112,10,102,105,101,108,100,32,32,97,32,109,117,115,116,10,114,117,108,101,32,119,101,97,107,32,114,58,97,61,50,10]
def knF:iv:=([],[],[([112],([],()))],[([97],(0,(true,(0,()))))],[([114],(3,([],(KM [97],(iE,())))))],[])
theorem CE:qT (vf 10 knS) qI 0=.inr knF:=by
 have e:vf 10 knS=[[112,97,103,101,32,112],[102,105,101,108,100,32,32,97,32,109,117,115,116],[114,117,108,101,32,119,101,97,107,32,114,58,97,61,50],[]]:=by decide +kernel
 have l1:xL 0 [112,97,103,101,32,112]=(0,[],[],[([112],([],()))],[],[],[]):=rfl
 have l2:xL 1 [102,105,101,108,100,32,32,97,32,109,117,115,116]=(0,[],[],[],[([97],(0,(true,(0,()))))],[],[]):=rfl
 have l3:xL 1 [114,117,108,101,32,119,101,97,107,32,114,58,97,61,50]=(0,[],[],[],[],[([114],(3,([],(KM [97],(iE,())))))],[]):=by
  have:xL 1 [114,117,108,101,32,119,101,97,107,32,114,58,97,61,50]=V3 [[114,117,108,101],[119,101,97,107],[114]] [97,61,50]:=rfl
  rw[this]
  unfold V3
  rw[Rj]
  rfl
 rw[e]
 unfold qT
 rw[show xL qI.2.2.1.length [112,97,103,101,32,112]=_ from l1,if_pos rfl]
 unfold qT
 rw[show xL (nL qI (([],[],[([112],([],()))],[],[],[]):iv)).2.2.1.length [102,105,101,108,100,32,32,97,32,109,117,115,116]=_ from l2,if_pos rfl]
 unfold qT
 rw[show xL (nL (nL qI (([],[],[([112],([],()))],[],[],[]):iv)) (([],[],[],[([97],(0,(true,(0,()))))],[],[]):iv)).2.2.1.length [114,117,108,101,32,119,101,97,107,32,114,58,97,61,50]=_ from l3,if_pos rfl]
 rfl
theorem K5{s:zd}(h:s.length<=600){S:iv}(hl:qT (vf 10 s) qI 0=.inr S):FS (Jl S):=by
 obtain⟨g,ht⟩:=JL _ _ _ _ hl z4S
 have:=HR 10 s
 have h0:En qI=0:=rfl
 exact⟨by rw[h0]at ht; unfold En at ht; show S.1.length+S.2.1.length+S.2.2.1.length+S.2.2.2.1.length+S.2.2.2.2.1.length+S.2.2.2.2.2.length<=601; omega,g.s,g.p,g.g,g.d,g.r,g.c⟩
def knT:zd:=[112,97,103,101,32,112,10,102,105,101,108,100,32,97,32,109,117,115,116,10,114,117,108,101,32,119,101,97,107,32,114,32,58,32,97,32,61,32,50,10]
theorem IS:frS (Jl knF)=knT:=by
 have h1:Pu (KM [97]) [61] iE=[32,58,32,97,32,61,32,50,10]:=by
  unfold Pu
  rw[z3j]
  rfl
 have h2:Ib ([114],(3,([],(KM [97],(iE,())))))=[114,117,108,101,32,119,101,97,107,32,114,32,58,32,97,32,61,32,50,10]:=by
  unfold Ib
  rw[h1]
  rfl
 show([]++[]++(List.range 1).flatMap (OP (Jl knF))++(Ib ([114],(3,([],(KM [97],(iE,())))))++[]))=_
 rw[h2]
 rfl
theorem SU:Xh (Jl knF)=true:=by
 have h6:a6 (Jl knF)=true:=by
  show(!(Zp ([114],(3,([],(KM [97],(iE,())))))||false))=true
  have:Zp ([114],(3,([],(KM [97],(iE,())))))=false:=by
   show(!(zS [114])||(!(oL [])||(false||(false||(!(uA 0 (KM [97])) || !(uA 0 iE))))))=false
   rw[Dg 0 (by decide)]
   rfl
  grind
 unfold Xh
 rw[h6,IS]
 rfl
theorem Zk:cy.run=some true:=by
 have hp:(uQ knS).run=some (Jl knF,((0:Int),(0:Int))):=by
  rw[dO knS (λS h=>K5 (by decide) h)]
  unfold yx
  rw[if_neg (by decide),CE]
  dsimp only
  rw[SU]
  rfl
 have hF:FS (Jl knF):=K5 (s:=knS) (by decide) CE
 have hp2:(iS (Jl knF)).run=some knT:=by
  unfold iS
  rw[z6 (Qi _ hF),SU,z8 (by rfl)]
  have h:=SU
  unfold Xh at h
  simp at h
  rw[z6 (oe _ (To hF h.2.2.2.1 h.2.2.2.2.1 h.2.2.2.2.2.1)),z7,IS]
 unfold cy
 rw[show([112,97,103,101,32,112,10,102,105,101,108,100,32,32,97,32,109,117,115,116,10,114,117,108,101,32,119,101,97,107,32,114,58,97,61,50,10]:zd)=knS from rfl,z6 hp]
 rw[za (by rfl),za (by rfl),z6 hp2,z7]
 rfl
theorem z3c(x:Int)(c:Nat)(hc:c<9223372036854775808):0<=tu .i64 x (c:Int)/\tu .i64 x (c:Int)<=(c:Int):=by
 have e:tu .i64 x (c:Int)=zI (((BitVec.ofInt 64 x &&& BitVec.ofInt 64 (c:Int)).toNat:Nat):Int):=rfl
 have h:(BitVec.ofInt 64 x &&& BitVec.ofInt 64 (c:Int)).toNat<=c:=by
  rw[BitVec.toNat_and]
  refine Nat.le_trans Nat.and_le_right ?_
  rw[BitVec.toNat_ofInt,show((c:Int) % ((2 ^ 64:Nat):Int)).toNat=c by omega]
  omega
 rw[e,zA (by omega) (by omega)]
 omega
theorem TA(b:UInt8):∀ (l m:List zd),l≠[]->C8 b (l++m)=C8 b l++m
 | [],_,h=>absurd rfl h
 | _::_,_,_=>rfl
theorem z0g(c:UInt8):∀ s:zd,vf c s≠[]
 | []=>List.cons_ne_nil _ _
 | b::r=>by
  rw[gX]
  split
  ·exact List.cons_ne_nil _ _
  ·cases vf c r<;>exact List.cons_ne_nil _ _
theorem sr(c:UInt8)(b:zd):∀ a:zd,vf c (a++c::b)=vf c a++vf c b
 | []=>by
  show vf c (c::b)=_
  rw[gX,if_pos rfl]; rfl
 | x::a=>by
  show vf c (x::(a++c::b))=_
  rw[gX,gX,sr c b a]
  split
  ·rfl
  ·exact TA x _ _ (z0g c a)
theorem Jw(x:zd)(l:List zd)(S:iv)(k:Nat):qT (x::l) S k=if(xL S.2.2.1.length x).1=0 then qT l (nL S (xL S.2.2.1.length x).2) (k+1)else .inl (k+1,(xL S.2.2.1.length x).1):=rfl
theorem W7:∀ (l m:List zd) (S:iv) (k:Nat),qT (l++m) S k=match qT l S k with | .inl e=>.inl e | .inr S'=>qT m S' (k+l.length)
 | [],_,_,_=>rfl
 | x::l,m,S,k=>by
  rw[List.cons_append,Jw,Jw]
  by_cases h:(xL S.2.2.1.length x).1=0
  ·rw[if_pos h,if_pos h,W7 l m,List.length_cons,show k+1+l.length=k+(l.length+1) by omega]
  ·rw[if_neg h,if_neg h]
theorem Gl:∀ {l:List zd} {S:iv} {k:Nat} {e:Nat×Int},qT l S k=.inl e->e.2≠0
 | x::l,S,k,e,h=>by
  unfold qT at h
  by_cases c:(xL S.2.2.1.length x).1=0
  ·rw[if_pos c]at h; exact Gl h
  ·rw[if_neg c]at h; cases h; exact c
theorem M5:∀ (l:List zd) (S S':iv) (k j:Nat),qT l S k=.inr S'->qT l S j=.inr S'
 | [],_,_,_,_,h=>h
 | x::l,S,S',k,j,h=>by
  unfold qT at h ⊢
  by_cases c:(xL S.2.2.1.length x).1=0
  ·rw[if_pos c]at h ⊢; exact M5 l _ _ _ _ h
  ·rw[if_neg c]at h; cases h
theorem z2S(S:iv):nL S qI=S:=kh S.1 S.2.1 S.2.2.1 S.2.2.2.1 S.2.2.2.2.1 S.2.2.2.2.2
theorem XM{line:zd}(h:∀ np,xL np line=(0,qI))(l:List zd)(S:iv)(k:Nat):qT (line::l) S k=qT l S (k+1):=by
 conv=>lhs; unfold qT
 rw[h,if_pos rfl,z2S]
theorem Ip(np:Nat)(s:zd):xL np (32::s)=xL np s:=by
 unfold xL
 by_cases h:(58:UInt8)∈s
 ·obtain⟨a,b,rfl,ha⟩:=List.eq_append_cons_of_mem h
  rw[dt 58 a b ha,show(32:UInt8)::(a++58::b)=(32::a)++58::b from rfl,dt 58 (32::a) b (by simpa using ha)]
  rfl
 ·rw[kC 58 s h,kC 58 (32::s) (by simpa using h)]
  rfl
theorem rK(b:zd)(S:iv)(k:Nat):qT (vf 10 (32::b)) S k=qT (vf 10 b) S k:=by
 rw[gX,if_neg (by decide)]
 cases h:vf 10 b with
 | nil=>exact absurd h (z0g 10 b)
 | cons x r =>
  show qT ((32::x)::r) S k=qT (x::r) S k
  unfold qT
  rw[Ip]
theorem Rd(np:Nat):xL np [35,32,120,32,61,32,121]=(0,qI):=by
 rw[Ch np _ [35] [[120],[61],[121]] (by decide)]
 rfl
def Ov:zd:=[10,32,32,10,35,32,120,32,61,32,121,10,32,32,32]
theorem Od(a b:zd){S:iv}(h:qT (vf 10 (a++10::b)) qI 0=.inr S):qT (vf 10 ((a++[10])++Ov++b)) qI 0=.inr S:=by
 rw[sr,W7]at h
 rw[show(a++[10])++Ov++b=a++10::([]++10::([32,32]++10::([35,32,120,32,61,32,121]++10::(32::32::32::b)))) by simp[Ov],sr,sr,sr,sr,W7]
 cases hq:qT (vf 10 a) qI 0 with
 | inl e=>rw[hq]at h; cases h
 | inr S' =>
  rw[hq]at h
  dsimp only at h ⊢
  rw[Xn 10 [] (by decide),Xn 10 [32,32] (by decide),Xn 10 [35,32,120,32,61,32,121] (by decide)]
  simp only[List.singleton_append]
  rw[XM (λnp=>W0 np [] rfl),XM (λnp=>W0 np [32,32] rfl),XM Rd,rK,rK,rK]
  exact M5 _ _ _ _ _ h
theorem TB(s:zd)(hs:s.length<=600)(at_:Int)(F:Form):∃ E,(fy s at_ (0,(F,[]))).run=some (F,E)/\E.length<=600/\∀ x∈E,∃ j:Nat,j<s.length/\zt s (j:Int)=10/\x=((j+1:Nat):Int):=by
 have:=T.qU (r:=va s at_) (λz:Int×Form×List Int=>∃ k:Nat,z.1=(k:Int)/\k<=s.length/\z.2.1=F/\z.2.2.length<=k/\∀ x∈z.2.2,∃ j:Nat,j<s.length/\zt s (j:Int)=10/\x=((j+1:Nat):Int)) (λz=>s.length-z.1.toNat)
  (λz=>z.1=F/\z.2.length<=600/\∀ x∈z.2,∃ j:Nat,j<s.length/\zt s (j:Int)=10/\x=((j+1:Nat):Int)) (λz hz => ?_) (s:=(0,(F,[]))) ⟨0,rfl,by omega,rfl,Nat.le_refl _,λ_ h=>by cases h⟩
 ·obtain⟨z,h1,h2,h3,h4⟩:=this
  obtain⟨z1,z2⟩:=z
  dsimp only at h2 h3 h4
  subst h2
  exact⟨z2,h1,h3,h4⟩
 ·obtain⟨z1,z2,z3⟩:=z
  obtain⟨k,rfl,hk,rfl,hl,hE⟩:=hz
  dsimp only at hl hE ⊢
  by_cases c:k<s.length
  ·left
   have hw:=eS k _ c (by omega)
   by_cases b:zt s (k:Int)=10
   ·refine⟨(((k+1:Nat):Int),(z2,z3++[((k+1:Nat):Int)])),?_,⟨k+1,rfl,c,rfl,by simp; omega,λx hx => ?_⟩,by dsimp only; omega⟩
    ·unfold va
     dsimp only
     rw[za (vQ c),zb (zG c),za (by simp[b]),z7Z _ (by omega),z6X _ (by simp),hw,z7]
    ·rcases List.mem_append.1 hx with hx | hx
     ·exact hE x hx
     ·exact⟨k,c,b,List.mem_singleton.1 hx⟩
   ·refine⟨(((k+1:Nat):Int),(z2,z3)),?_,⟨k+1,rfl,c,rfl,by dsimp only; omega,hE⟩,by dsimp only; omega⟩
    unfold va
    dsimp only
    rw[za (vQ c),zb (zG c),z8 (by simpa using b),SN,z01,hw,z7]
  ·right
   have:k=s.length:=by omega
   subst this
   refine⟨(z2,z3),?_,rfl,by dsimp only; omega,hE⟩
   unfold va
   dsimp only
   rw[z8 (oB _),SN,z01,z7]
theorem tv(s:zd)(at_:Int):(yW s at_).run=some true:=by
 unfold yW
 by_cases c:600<s.length
 ·rw[za (decide_eq_true (by omega)),z7]
 rw[z8 (decide_eq_false (by omega))]
 have hF:∀ S,qT (vf 10 s) qI 0=.inr S->FS (Jl S):=λS h=>K5 (by omega) h
 have h1:(uQ s).run=some ((yx s).1,((yx s).2.1,(yx s).2.2)):=dO s hF
 have h2:(eW s).run=some ((yx s).1,((yx s).2.1,(yx s).2.2)):=UA s hF
 rw[z6 h1]
 dsimp only
 by_cases c0:(yx s).2.2=0
 ·rw[z8 (by simpa using c0),zb ⟨rfl,rfl,rfl⟩,zb rfl]
  obtain⟨E,e1,e2,e3⟩:=TB s (by omega) at_ (yx s).1
  rw[z6 e1]
  dsimp only
  by_cases c1:E.length=0
  ·rw[za (by simpa using c1),z6 Zk,z7]
  rw[z8 (by simpa using c1),zb (by omega)]
  have ha:0<=tu .i64 at_ (65535:Int)/\_:=z3c at_ 65535 (by omega)
  obtain⟨k,hk,hkl⟩:∃ k:Nat,Int.tmod (tu .i64 at_ (65535:Int)) (E.length:Int)=(k:Int)/\k<E.length:=by
   have h0:0<=tu .i64 at_ (65535:Int):=ha.1
   refine⟨(Int.tmod (tu .i64 at_ (65535:Int)) (E.length:Int)).toNat,?_,?_⟩
   ·have:=Int.tmod_nonneg (E.length:Int) h0; omega
   ·have:=Int.tmod_lt_of_pos (tu .i64 at_ (65535:Int)) (b:=(E.length:Int)) (by omega)
    have:=Int.tmod_nonneg (E.length:Int) h0; omega
  obtain⟨j,hj,hb,hx⟩:=e3 E[k] (List.getElem_mem hkl)
  have hn:kX E k (zn (.int .i64))=((j+1:Nat):Int):=by rw[<- hx]; simp[kX,hkl]
  simp only[hk,Int.toNat_natCast,Nat.zero_add,hn]
  rw[zb (zG hkl),zb ⟨rfl,hkl⟩,zb (xG.2 ⟨by omega,by omega,by omega⟩)]
  have c1:qz (0:Int) ((j+1:Nat):Int) s=s.take (j+1):=vP s 0 (j+1)
  have c2:qz ((j+1:Nat):Int) (s.length:Int) s=s.drop (j+1):=by rw[vP,List.take_length]
  rw[c1,c2,Rw _ (by rw[List.length_take]; simp; omega),zb (xG.2 ⟨by omega,by omega,by omega⟩),Rw _ (by rw[qc,List.length_take,List.length_drop]; simp; omega),jx,jx]
  have By:s[j]=10:=by
   rw[byte_at hj]at hb
   exact UInt8.toNat_inj.1 (by have:(10:UInt8).toNat=10:=rfl; omega)
  have ht:s.take (j+1)=s.take j++[10]:=by rw[List.take_succ_eq_append_getElem hj,By]
  have mb:s=s.take j++10::s.drop (j+1):=by
   conv=>lhs; rw[<- List.take_append_drop (j+1) s,ht]
   simp
  rw[ht]
  obtain⟨S,hS,hI,hP⟩:∃ S,qT (vf 10 s) qI 0=.inr S/\Xh (Jl S)=true/\yx s=(Jl S,(0,0)):=by
   unfold yx at c0 ⊢
   rw[if_neg (by omega)]at c0 ⊢
   cases hq:qT (vf 10 s) qI 0 with
   | inl e =>
    rw[hq]at c0
    dsimp only at c0
    exact absurd c0 (Gl hq)
   | inr S =>
    rw[hq]at c0
    dsimp only at c0 ⊢
    by_cases c2:Xh (Jl S)=true
    ·exact⟨S,rfl,c2,if_pos c2⟩
    ·rw[if_neg c2]at c0; exact absurd c0 (by decide)
  have hS2:=hS
  rw[mb]at hS2
  have hG:=Od _ _ hS2
  have hp:(uQ (s.take j++[10]++Ov++s.drop (j+1))).run=some (Jl S,(0,0)):=by
   rw[dO _ λS' h=>by rw[hG]at h; cases h; exact hF S hS]
   unfold yx
   rw[if_neg (by simp[Ov]; omega),hG]
   dsimp only
   rw[if_pos hI]
  have hfs:=hF S hS
  rw[show(10::[32,32,10,35,32,120,32,61,32,121,10,32,32,32]:zd)=Ov from rfl,z6 hp,hP]
  dsimp only
  rw[za (by rfl),z6 (Y7 _ _ hfs hfs),FW,zk,z6 Zk,z7]
 ·rw[za (by simpa using c0),z6 h2]
  dsimp only
  rw[za (by simpa using c0),z6 Zk,z7]
theorem tr(x:KZ [.str,i64])(hw:wfL [.str,i64] x)(hb:bkL [.str,i64] x<=1048576):(yW (Oi [.str,i64] x).1 (Oi [.str,i64] x).2).run=some true:=tv x.1 x.2.1
end Go.AM.Lf
