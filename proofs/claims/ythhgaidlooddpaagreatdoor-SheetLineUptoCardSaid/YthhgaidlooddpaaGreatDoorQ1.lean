/-
  Plain laws of the lifted program, part 1.
-/
import Derived.Test.YthhgaidlooddpaaGreatDoorLf0
import Derived.Test.YthhgaidlooddpaaGreatDoorAmA
import Derived.Test.YthhgaidlooddpaaGreatDoorAmD
import Derived.Test.YthhgaidlooddpaaGreatDoorQ0
set_option linter.unusedVariables false
open Go.AM.T (JE V4 cI cR j6 xU xw z6 z7 zH zP za zc zd zh zi zm)
namespace Go.AM.Lf
open PL
def xo(k:Int):Int:=if k=3\/k=4 then 1 else if k=5\/k=6 then 2 else if k=7 then 3 else 4
def Ua(k:Int):zf:=if k=3 then[32,43,32]else if k=4 then[32,45,32]else if k=5 then[32,42,32]else if k=6 then[32,47,32]else[]
def Qz(b:Bool)(s:zf):zf:=if b=true then[40]++s++[41]else s
def pT(k:Int):List (Int×zf)->zf
 | [a]=>[45]++Qz (decide (a.1<3)) a.2
 | [a,b]=>Qz (decide (a.1<xo k)) a.2++Ua k++Qz (decide (b.1<xo k+1)) b.2
 | _=>[]
mutual
def prE:Expr->zf
 | .mk k n s l=>if k=1 then(xV (norm n).1 (nv (norm n).2.1) (nv (norm n).2.2.1) 0 61).1 else if k=2 then s else pT k (prL l)
def prL:List Expr->List (Int×zf)
 | []=>[]
 | e::r=>(xo e.kind,prE e)::prL r
end
theorem cq(b:Bool)(s:zf):(Qz b s).length<=s.length+2:=by unfold Qz; split<;>simp<;>omega
theorem Xe(k:Int):(Ua k).length<=3:=by unfold Ua; (repeat' split)<;>simp
theorem BX(n:Rat)(h:yh n):(xV (norm n).1 (nv (norm n).2.1) (nv (norm n).2.2.1) 0 61).1.length<=6000:=by
 have hn:=su (k:=100) (by omega) h
 have hd:=VQ n.1 (nv n.2.1) (nv n.2.2.1)
 have hd:nv (norm n).2.2.1≠0:=hd
 rcases hx:xV (norm n).1 (nv (norm n).2.1) (nv (norm n).2.2.1) 0 61 with⟨s,b⟩
 cases b with
 | true =>
  obtain⟨j,h1,h2,h3,rfl⟩:=XH _ _ _ hd 61 0 s hx
  have l1:=q7 hn.1
  have l2:=hn.2.2.1
  have l3:=og j
  have l4:=rD (nv (norm n).2.1) (10 ^ j)
  have l5:=sZ (Nat.div_le_self (nv (norm n).2.1*10 ^ j) (nv (norm n).2.2.1))
  have l6:=mD (nv (norm n).2.1*10 ^ j / nv (norm n).2.2.1) 162 (by omega)
  have l7:(DZ (norm n).1).length<=1:=by unfold DZ; split<;>simp
  dsimp only
  rw[List.length_append]
  by_cases hj:j=0
  ·subst hj
   unfold Le
   rw[if_pos rfl]
   omega
  ·obtain⟨w,p,e,_,_,_,hp,_,hw⟩:=BG (pr (nv (norm n).2.1*10 ^ j / nv (norm n).2.2.1)) j hj (LP _).1
   rw[e,List.length_append,List.length_cons]
   omega
 | false =>
  have:∀ (f k:Nat) (s:zf),xV (norm n).1 (nv (norm n).2.1) (nv (norm n).2.2.1) k f=(s,false)->s=[]:=by
   intro f
   induction f with
   | zero=>intro k s h; unfold xV at h; cases h; rfl
   | succ f ih =>
    intro k s h
    unfold xV at h
    split at h
    ·cases h
    ·exact ih _ _ h
  rw[this 61 0 s hx]; simp
theorem tU{d:Nat}{k:Int}{n:Rat}{s:zf}{l:List Expr}(h:uy d (.mk k n s l)=true):((l.length:Int)=lX k)/\yT (d+1) l=true:=by
 have h:(decide (d<32)&&(jA (.mk k n s l)&&yT (d+1) l))=true:=h
 simp only[Bool.and_eq_true]at h
 obtain⟨_,h1,h2⟩:=h
 unfold jA at h1
 simp only[Bool.and_eq_true]at h1
 exact⟨eq_of_beq h1.1,h2⟩
theorem sw:∀ (m:Nat) (e:Expr) (d:Nat),vR e<=m->uy d e=true->allOk e->(prE e).length<=2000*szE e:=by
 intro m
 induction m with
 | zero=>intro e d hm; cases e; unfold vR at hm; omega
 | succ m ih =>
  intro e d hm ho ha
  cases e with | mk k n s l =>
  obtain⟨hk,hl⟩:=tU ho
  obtain⟨hn,oh⟩:=ha
  have NY:vR (.mk k n s l)=1+jB l:=rfl
  have vV:szE (.mk k n s l)=3+s.length+8*n.2.1.length+8*n.2.2.1.length+szEs l:=rfl
  rw[NY]at hm
  rw[vV]
  show(if k=1 then(xV (norm n).1 (nv (norm n).2.1) (nv (norm n).2.2.1) 0 61).1 else if k=2 then s else pT k (prL l)).length<=_
  by_cases h1:k=1
  ·rw[if_pos h1]; have:=BX n hn; omega
  ·rw[if_neg h1]
   by_cases h2:k=2
   ·rw[if_pos h2]; omega
   ·rw[if_neg h2]
    match l,hl,oh,hm with
    | [],_,_,_=>show(pT k []).length<=_; unfold pT; simp
    | [a],hl,oh,hm =>
     have ha':uy (d+1) a=true:=by
      have:(uy (d+1) a&&yT (d+1) [])=true:=hl
      simp only[Bool.and_eq_true]at this; exact this.1
     have:=ih a (d+1) (by have:jB [a]=vR a+0:=rfl; omega) ha' oh.1
     have e1:szEs [a]=szE a+0:=rfl
     have hp:=cq (decide (xo a.kind<3)) (prE a)
     show([45]++Qz (decide (xo a.kind<3)) (prE a)).length<=_
     rw[List.length_append,List.length_singleton,e1]; omega
    | [a,b],hl,oh,hm =>
     have Uj:uy (d+1) a=true/\uy (d+1) b=true:=by
      have:(uy (d+1) a&&(uy (d+1) b&&yT (d+1) []))=true:=hl
      simp only[Bool.and_eq_true]at this; exact⟨this.1,this.2.1⟩
     have e0:jB [a,b]=vR a+(vR b+0):=rfl
     have h3:=ih a (d+1) (by omega) Uj.1 oh.1
     have h4:=ih b (d+1) (by omega) Uj.2 oh.2.1
     have e1:szEs [a,b]=szE a+(szE b+0):=rfl
     have hp:=cq (decide (xo a.kind<xo k)) (prE a)
     have hq:=cq (decide (xo b.kind<xo k+1)) (prE b)
     have hm':=Xe k
     show(Qz (decide (xo a.kind<xo k)) (prE a)++Ua k++Qz (decide (xo b.kind<xo k+1)) (prE b)).length<=_
     rw[List.length_append,List.length_append,e1]; omega
    | a::b::c::r,_,_,_=>show(pT k _).length<=_; unfold prL prL prL pT; simp
theorem Xu(e:Expr):(yr e).run=some (xo e.kind):=by
 unfold yr xo
 generalize e.kind=k
 by_cases h3:k=3
 ·subst h3; rfl
 by_cases h4:k=4
 ·subst h4; rfl
 by_cases h5:k=5
 ·subst h5; rfl
 by_cases h6:k=6
 ·subst h6; rfl
 by_cases h7:k=7
 ·subst h7; rfl
 ·simp[h3,h4,h5,h6,h7]
theorem mh(g:Expr->T zf)(e:Expr)(least:Int)(t:zf)(hg:(g e).run=some t)(hl:t.length<=1000000000000):(kg (λy0=>g y0) e least).run=some (Qz (decide (xo e.kind<least)) t):=by
 unfold kg Qz
 rw[z6 (Xu e)]
 cases decide (xo e.kind<least)with
 | true=>rw[zm,z6 hg,zP _ (by simp; omega),zP _ (by simp[fJ]; omega),z7,if_pos rfl]; rfl
 | false=>rw[zh,z6 hg,z7,if_neg (by simp)]
theorem Gu{k:Int}{l:List Expr}(hk:(l.length:Int)=lX k)(h1:k≠1)(h2:k≠2):(k=7/\∃ a,l=[a])\/((k=3\/k=4\/k=5\/k=6)/\∃ a b,l=[a,b]):=by
 unfold lX at hk
 rw[if_neg (by rintro(h | h); exact h1 h; exact h2 h)]at hk
 by_cases h7:k=7
 ·rw[if_pos h7]at hk
  match l,hk with
  | [a],_=>exact .inl ⟨h7,a,rfl⟩
  | [],hk=>simp at hk
  | _::_::_,hk=>simp at hk; omega
 ·rw[if_neg h7]at hk
  by_cases h:k=3\/k=4\/k=5\/k=6
  ·rw[if_pos h]at hk
   match l,hk with
   | [a,b],_=>exact .inr ⟨h,a,b,rfl⟩
   | [],hk=>simp at hk
   | [_],hk=>simp at hk
   | _::_::_::_,hk=>simp at hk; omega
  ·rw[if_neg h]at hk; omega
theorem CY(e:Expr)(d:Nat)(ho:uy d e=true)(ha:allOk e)(hs:szE e<=1000000):(dy e).run=some (prE e):=by
 unfold dy
 refine V4 (λx:Expr=>(∃ d,uy d x=true)/\allOk x/\szE x<=1000000) (λx=>vR x) (λx=>prE x) (λx hx g hg => ?_) (x:=e) ⟨⟨d,ho⟩,ha,hs⟩
 obtain⟨⟨d,ho⟩,ha,hs⟩:=hx
 cases x with | mk k n s l =>
 obtain⟨hk,hl⟩:=tU ho
 obtain⟨hn,oh⟩:=ha
 have NY:vR (.mk k n s l)=1+jB l:=rfl
 have vV:szE (.mk k n s l)=3+s.length+8*n.2.1.length+8*n.2.2.1.length+szEs l:=rfl
 have hE:=lT n (Zu hn (by omega))
 have z6a:prE (.mk k n s l)=if k=1 then(xV (norm n).1 (nv (norm n).2.1) (nv (norm n).2.2.1) 0 61).1 else if k=2 then s else pT k (prL l):=rfl
 rw[z6a]
 unfold gD
 rw[show Expr.kind (.mk k n s l)=k from rfl,show Expr.kids (.mk k n s l)=l from rfl,show Expr.num (.mk k n s l)=n from rfl,show Expr.name (.mk k n s l)=s from rfl]
 have IX:=Xu (.mk k n s l)
 rw[show Expr.kind (.mk k n s l)=k from rfl]at IX
 by_cases h1:k=1
 ·rw[if_pos h1]
  refine(z6 (a:=.inr (xV (norm n).1 (nv (norm n).2.1) (nv (norm n).2.2.1) 0 61).1) ?_ _).trans rfl
  rw[zc (by simpa using h1),z6 hE,z7]
 have k1:(k==1)=false:=by simpa using h1
 by_cases h2:k=2
 ·rw[if_neg h1,if_pos h2]
  refine(z6 (a:=.inr s) ?_ _).trans rfl
  rw[za k1,zc (by simpa using h2),z7]
 have k2:(k==2)=false:=by simpa using h2
 rw[if_neg h1,if_neg h2]
 rcases Gu hk h1 h2 with⟨h7,a,rfl⟩ | ⟨Mz,a,b,rfl⟩
 ·have ha':uy (d+1) a=true:=by
   have:(uy (d+1) a&&yT (d+1) [])=true:=hl
   simp only[Bool.and_eq_true]at this; exact this.1
  have e0:jB [a]=vR a+0:=rfl
  have e1:szEs [a]=szE a+0:=rfl
  have hr:=hg a ⟨⟨_,ha'⟩,oh.1,by omega⟩ (by omega)
  have hlen:=sw (vR a) a (d+1) (Nat.le_refl _) ha' oh.1
  have hp:=mh g a 3 (prE a) hr (by omega)
  have ZZ:=cq (decide (xo a.kind<3)) (prE a)
  refine(z6 (a:=.inr (pT k (prL [a]))) ?_ _).trans rfl
  rw[za k1,za k2,zc (by simpa using h7),zd ⟨by omega,by simp⟩,show nth [a] (0:Int) (zq .expr)=a from rfl,z6 hp,zP _ (by simp; omega),z7]
  rfl
 ·have Uj:uy (d+1) a=true/\uy (d+1) b=true:=by
   have:(uy (d+1) a&&(uy (d+1) b&&yT (d+1) []))=true:=hl
   simp only[Bool.and_eq_true]at this; exact⟨this.1,this.2.1⟩
  have e0:jB [a,b]=vR a+(vR b+0):=rfl
  have e1:szEs [a,b]=szE a+(szE b+0):=rfl
  have ra:=hg a ⟨⟨_,Uj.1⟩,oh.1,by omega⟩ (by omega)
  have rb:=hg b ⟨⟨_,Uj.2⟩,oh.2.1,by omega⟩ (by omega)
  have la:=sw (vR a) a (d+1) (Nat.le_refl _) Uj.1 oh.1
  have lb:=sw (vR b) b (d+1) (Nat.le_refl _) Uj.2 oh.2.1
  have H5:zZ (xo k+1)=xo k+1:=by
   have:xo k=1\/xo k=2\/xo k=3\/xo k=4:=by unfold xo; (repeat' split)<;>simp
   rw[zI (by omega) (by omega)]
  have pa:=mh g a (xo k) (prE a) ra (by omega)
  have pb:=mh g b (xo k+1) (prE b) rb (by omega)
  have qa:=cq (decide (xo a.kind<xo k)) (prE a)
  have qb:=cq (decide (xo b.kind<xo k+1)) (prE b)
  have hm:=Xe k
  have k7:(k==7)=false:=by rw[beq_eq_false_iff_ne]; omega
  refine(z6 (a:=.inl (Ua k)) ?_ _).trans ?_
  ·rw[za k1,za k2,za k7]
   rcases Mz with rfl | rfl | rfl | rfl<;>rfl
  ·rw[Sum.elim_inl,zd ⟨by omega,by simp⟩,z6 IX,show nth [a,b] (0:Int) (zq .expr)=a from rfl,z6 pa,zP _ (by omega),zd ⟨by omega,by simp⟩,z6 IX,H5,show nth [a,b] (1:Int) (zq .expr)=b from rfl,z6 pb,zP _ (by simp[fJ]; omega),z7]
   rfl
theorem mv(e:Expr):Expr.mk (Expr.kind e) ((Expr.num e).1,((Expr.num e).2.1,((Expr.num e).2.2.1,()))) (Expr.name e) (Expr.kids e)=e:=by
 cases e; rfl
def jD(e:Expr):Prop:=szE e<=74000/\vR e<=256/\allOk e
theorem Hp{e:Expr}(h:szE e<=600)(ha:allOk e):jD e:=⟨by omega,by have:=Ia e; omega,ha⟩
theorem NI{e:Expr}(h:jD e):vR e<=256:=h.2.1
theorem oo{e:Expr}(h:jD e):(vI e).run=some (uy 0 e):=RJ e h.2.2 (NI h)
theorem Hd{e:Expr}(h:jD e)(ho:uy 0 e=true):(b5 e).run=some (prE e):=by
 unfold b5
 rw[z6 (oo h),ho,za (by rfl),z6 (CY e 0 ho h.2.2 (by have:=h.1; omega)),z7]
theorem n8{e:Expr}(h:jD e)(ho:uy 0 e=true):(prE e).length<=148000000:=by
 have:=sw (vR e) e 0 (Nat.le_refl _) ho h.2.2
 have:=h.1
 omega
structure FS(f:Form):Prop where
 n:f.1.length+f.2.1.length+f.2.2.1.length+f.2.2.2.1.length+f.2.2.2.2.1.length+f.2.2.2.2.2.1.length<=601
 s:∀ x∈f.1,x.1.length<=600
 p:∀ x∈f.2.1,x.1.length<=600/\jo 100 x.2.1
 g:∀ x∈f.2.2.1,x.1.length<=600/\x.2.1.length<=600
 d:∀ x∈f.2.2.2.1,x.1.length<=600
 r:∀ x∈f.2.2.2.2.1,x.1.length<=600/\x.2.2.1.length<=600/\jD x.2.2.2.1/\jD x.2.2.2.2.1
 c:∀ x∈f.2.2.2.2.2.1,x.1.length<=600/\jD x.2.2.2.1/\jD x.2.2.2.2.1
def Ds(x:Switch):Bool := !zJ x.1
def US(x:Param):Bool := !zJ x.1||(!mq x.2.1||hH x.2.1)
def mK(s:zf):Bool:=zk s []||zJ s
def N9(x:xc):Bool := !zJ x.1 || !mK x.2.1
def Kc(n at_:Int)(x:Field):Bool:=decide (x.2.1<at_)||(decide (n<=x.2.1)||(!zJ x.1||(decide (x.2.2.2.1<(0:Int))||decide ((9:Int)<x.2.2.2.1))))
def Kb(n at_:Int)(x:Check):Bool:=decide (x.2.1<at_)||(decide (n<=x.2.1)||(!zJ x.1||(decide (x.2.2.1<(0:Int))||(decide ((2:Int)<x.2.2.1)||(!uy 0 x.2.2.2.1 || !uy 0 x.2.2.2.2.1)))))
def WE(x:qV):Bool := !zJ x.1||(!mK x.2.2.1||(decide (x.2.1<(0:Int))||(decide ((3:Int)<x.2.1)||(!uy 0 x.2.2.2.1 || !uy 0 x.2.2.2.2.1))))
def om{α:Type}(bad:Int->α->Bool)(nx:α->Int):Int->List α->Bool
 | _,[]=>true
 | at_,x::r => !bad at_ x&&om bad nx (nx x) r
theorem Kg{α:Type}(bad:Int->α->Bool)(nx:α->Int)(at_:Int)(x:α)(r:List α):om bad nx at_ (x::r)=(!bad at_ x&&om bad nx (nx x) r):=rfl
def a1(f:Form):Bool := !f.1.any Ds
def a2(f:Form):Bool := !f.2.1.any US
def a3(f:Form):Bool := !f.2.2.1.any N9
def a4(f:Form):Bool:=om (Kc (f.2.2.1.length:Int)) (λx=>x.2.1) 0 f.2.2.2.1
def a5(f:Form):Bool:=om (Kb (f.2.2.1.length:Int)) (λx=>x.2.1) 0 f.2.2.2.2.2.1
def a6(f:Form):Bool := !f.2.2.2.2.1.any WE
theorem Xo{α:Type}(l:List α)(d:α)(bad:Int->α->Bool)(nx:α->Int){r:Int×Int->T ((Int×Int)⊕(Unit⊕Bool))}
  (hn:∀ at_ x,0<=at_->bad at_ x=false->0<=nx x)
  (step:∀ (k:Nat) (at_:Int) (x:α),k<l.length->nth l (k:Int) d=x->x∈l->0<=at_->(r (at_,(k:Int))).run=some (if bad at_ x=true then .inr (.inr false)else .inl (nx x,((k+1:Nat):Int))))
  (done:∀ at_,(r (at_,(l.length:Int))).run=some (.inr (.inl ()))):(T.loop r (0,0)).run=some (if om bad nx 0 l=true then .inl ()else .inr false):=by
 refine T.W5 (r:=r) l d (λ(b:Int) i=>(b,i)) (λ_ b=>0<=b) (λxs b=>if om bad nx b xs=true then .inl ()else .inr false) (λk b x xs hk hx hm _ h0 => ?_) (λb _ => ?_) (b:=0) (Int.le_refl 0)
 ·rw[step k b x hk hx hm h0]
  rw[Kg]
  cases h:bad b x with
  | true=>exact .inr rfl
  | false=>exact .inl ⟨nx x,rfl,hn b x h0 h,rfl⟩
 ·exact done b
theorem pq{α:Type}{bad:Int->α->Bool}{nx:α->Int}:∀ {l:List α} {at_:Int},om bad nx at_ l=true->∀ x∈l,∃ b,bad b x=false
 | [],_,_,x,hx=>by cases hx
 | y::r,at_,h,x,hx=>by
  unfold om at h
  rw[Bool.and_eq_true,Bool.not_eq_true']at h
  rcases List.mem_cons.1 hx with rfl | hx
  ·exact⟨at_,h.1⟩
  ·exact pq h.2 x hx
theorem orP{α:Type}{x:α}{b c:Bool}{t:T (Bool×α)}(h:t.run=some (c,x)):(T.ite b (.ret (true,x)) t).run=some (b||c,x):=by cases b; exact h; rfl
theorem orB{b c:Bool}{t:T Bool}(h:t.run=some c):(T.ite b (.ret true) t).run=some (b||c):=by cases b; exact h; rfl
theorem Jr{α:Type}{x:α}{m:T Bool}{b c:Bool}{t:T (Bool×α)}(hm:m.run=some b)(h:t.run=some (c,x)):(T.bind m λr=>T.ite (!r) (.ret (true,x)) t).run=some (!b||c,x):=by
 rw[z6 hm]; exact orP h
theorem Xr{m:T Bool}{b c:Bool}{t:T Bool}(hm:m.run=some b)(h:t.run=some c):(T.bind m λr=>T.ite (!r) (.ret true) t).run=some (!b||c):=by
 rw[z6 hm]; exact orB h
theorem z4o{α:Type}{x:α}{m:T Bool}{b:Bool}(hm:m.run=some b):(T.bind m λr=>.ret ((!r),x)).run=some (!b,x):=by
 rw[z6 hm]; rfl
theorem Sb{m:T Bool}{b:Bool}(hm:m.run=some b):(T.bind m λr=>.ret (!r)).run=some (!b):=by
 rw[z6 hm]; rfl
abbrev K0(a b:Int):Prop:=a<=b
abbrev ilt(a b:Int):Prop:=a<b
abbrev FT:=List Switch×List Param×List Field×List qV×List Check×Unit
def M4(x:Switch):zf:=[115,119,105,116,99,104,32]++x.1++(bif x.2.1 then[32,111,110,10]else[32,111,102,102,10])
def LS(x:Param):zf:=[112,97,114,97,109,32]++x.1++[32]++fE (norm x.2.1)++[10]
def OK(s:zf):zf:=if s=[]then[]else[32,119,104,101,110,32]++s
def phS(x:xc):zf:=[112,97,103,101,32]++x.1++OK x.2.1++[10]
def T1(x:Field):zf:=bif x.2.2.1 then[102,105,101,108,100,32]++x.1++[32,109,117,115,116]else[102,105,101,108,100,32]++x.1
def SV(x:Field):zf:=if(0:Int)<x.2.2.2.1 then T1 x++([32,115,99,97,108,101,32]++nP x.2.2.2.1)++[10]else T1 x++[10]
def NA(l:Expr)(sign:zf)(r:Expr):zf:=[32,58,32]++prE l++[32]++sign++[32]++prE r++[10]
def yV(n:Int):zf:=if n=1 then[60]else if n=2 then[60,61]else[61]
def ET(n:Int):zf:=if n=0 then[114,101,113,117,105,114,101,100]else if n=1 then[115,116,114,111,110,103]else if n=2 then[109,101,100,105,117,109]else[119,101,97,107]
def Tn(x:Check):zf:=[99,104,101,99,107,32]++x.1++NA x.2.2.2.1 (yV x.2.2.1) x.2.2.2.2.1
def Db(x:qV):zf:=[114,117,108,101,32]++ET x.2.1++[32]++x.1++OK x.2.2.1++NA x.2.2.2.1 [61] x.2.2.2.2.1
def P8(i:Int)(x:Field):zf:=if(x.2.1==i)=true then SV x else[]
def S9(i:Int)(x:Check):zf:=if(x.2.1==i)=true then Tn x else[]
def LA(f:Form)(i:Nat):zf:=phS (nth f.2.2.1 (i:Int) (zq q9))++f.2.2.2.1.flatMap (P8 i)++f.2.2.2.2.2.1.flatMap (S9 i)
def frS(f:Form):zf:=f.1.flatMap M4++f.2.1.flatMap LS++(List.range f.2.2.1.length).flatMap (LA f)++f.2.2.2.2.1.flatMap Db
structure La(f:Form):Prop extends FS f where
 d2:∀ x∈f.2.2.2.1,K0 0 x.2.2.2.1/\K0 x.2.2.2.1 9
 c2:∀ x∈f.2.2.2.2.2.1,K0 0 x.2.2.1/\K0 x.2.2.1 2/\uy 0 x.2.2.2.1=true/\uy 0 x.2.2.2.2.1=true
 r2:∀ x∈f.2.2.2.2.1,K0 0 x.2.1/\K0 x.2.1 3/\uy 0 x.2.2.2.1=true/\uy 0 x.2.2.2.2.1=true
theorem P1{f:Form}(h:FS f)(h4:a4 f=true)(h5:a5 f=true)(h6:a6 f=true):La f:=by
 refine { toFS:=h,d2:=λx hx => ?_,c2:=λx hx => ?_,r2:=λx hx => ?_ }
 ·obtain⟨b,hb⟩:=pq h4 x hx
  unfold Kc at hb
  simp only[Bool.or_eq_false_iff,decide_eq_false_iff_not,Bool.not_eq_false']at hb
  obtain⟨_,_,_,q1,q2⟩:=hb
  exact⟨Int.not_lt.1 q1,Int.not_lt.1 q2⟩
 ·obtain⟨b,hb⟩:=pq h5 x hx
  unfold Kb at hb
  simp only[Bool.or_eq_false_iff,decide_eq_false_iff_not,Bool.not_eq_false']at hb
  obtain⟨_,_,_,q1,q2,q3,q4⟩:=hb
  exact⟨Int.not_lt.1 q1,Int.not_lt.1 q2,q3,q4⟩
 ·unfold a6 at h6
  rw[Bool.not_eq_true',List.any_eq_false]at h6
  have hb:WE x=false:=by simpa using h6 x hx
  unfold WE at hb
  simp only[Bool.or_eq_false_iff,decide_eq_false_iff_not,Bool.not_eq_false']at hb
  obtain⟨_,_,q1,q2,q3,q4⟩:=hb
  exact⟨Int.not_lt.1 q1,Int.not_lt.1 q2,q3,q4⟩
theorem Zs(n:Int):(yV n).length<=2:=by unfold yV; split; decide; split<;>decide
theorem JP(n:Int):(ET n).length<=8:=by unfold ET; split; decide; split; decide; split<;>decide
theorem sB(s:zf):(OK s).length<=s.length+6:=by unfold OK; split<;>simp
theorem Vj(x:Switch)(h:x.1.length<=600):(M4 x).length<=300000000:=by
 unfold M4
 cases x.2.1<;>simp<;>omega
theorem V9(x:Param)(h:x.1.length<=600)(hr:jo 100 x.2.1):(LS x).length<=300000000:=by
 have:=ZI x.2.1 ⟨hr.1,hr.2.1,by have:=hr.2.2.1; omega,by have:=hr.2.2.2; omega⟩
 unfold LS
 simp only[List.length_append,List.length_cons,List.length_nil]
 omega
theorem Hg(x:xc)(h:x.1.length<=600)(h2:x.2.1.length<=600):(phS x).length<=300000000:=by
 have:=sB x.2.1
 unfold phS
 simp only[List.length_append,List.length_cons,List.length_nil]
 omega
theorem HH(x:Field):(T1 x).length<=x.1.length+11:=by
 unfold T1
 cases x.2.2.1<;>simp
theorem Bh(x:Field)(h:x.1.length<=600)(h1:K0 0 x.2.2.2.1)(h2:K0 x.2.2.2.1 9):(SV x).length<=300000000:=by
 have:=Ud x.2.2.2.1 ⟨by unfold K0 at *; omega,by unfold K0 at *; omega⟩
 have:=HH x
 unfold SV
 split<;>simp only[List.length_append,List.length_cons,List.length_nil]<;>omega
theorem sN{l r:Expr}(s:zf)(hs:s.length<=8)(h1:jD l)(h2:jD r)(o1:uy 0 l=true)(o2:uy 0 r=true):(NA l s r).length<=297000000:=by
 have:=n8 h1 o1
 have:=n8 h2 o2
 unfold NA
 simp only[List.length_append,List.length_cons,List.length_nil]
 omega
theorem GG(x:Check)(h:x.1.length<=600)(h1:jD x.2.2.2.1)(h2:jD x.2.2.2.2.1)(o1:uy 0 x.2.2.2.1=true)(o2:uy 0 x.2.2.2.2.1=true):(Tn x).length<=300000000:=by
 have:=sN (yV x.2.2.1) (by have:=Zs x.2.2.1; omega) h1 h2 o1 o2
 unfold Tn
 simp only[List.length_append,List.length_cons,List.length_nil]
 omega
theorem Vy(x:qV)(h:x.1.length<=600)(h':x.2.2.1.length<=600)(h1:jD x.2.2.2.1)(h2:jD x.2.2.2.2.1)(o1:uy 0 x.2.2.2.1=true)(o2:uy 0 x.2.2.2.2.1=true):(Db x).length<=300000000:=by
 have:=sN [61] (by decide) h1 h2 o1 o2
 have:=JP x.2.1
 have:=sB x.2.2.1
 unfold Db
 simp only[List.length_append,List.length_cons,List.length_nil]
 omega
theorem Vg{f:Form}(h:La f)(i:Int):∀ x∈f.2.2.2.1,(P8 i x).length<=300000000:=λx hx=>by
 unfold P8
 split
 ·exact Bh x (h.d x hx) (h.d2 x hx).1 (h.d2 x hx).2
 ·exact Nat.zero_le _
theorem GB{f:Form}(h:La f)(i:Int):∀ x∈f.2.2.2.2.2.1,(S9 i x).length<=300000000:=λx hx=>by
 unfold S9
 obtain⟨q1,q2,q3⟩:=h.c x hx
 obtain⟨_,_,o1,o2⟩:=h.c2 x hx
 split
 ·exact GG x q1 q2 q3 o1 o2
 ·exact Nat.zero_le _
theorem IH{f:Form}(h:La f){i:Nat}(hi:i<f.2.2.1.length):(nth f.2.2.1 (i:Int) (zq q9)).1.length<=600/\(nth f.2.2.1 (i:Int) (zq q9)).2.1.length<=600 :=
 h.g _ (yw (by omega) (by omega))
theorem GZ{f:Form}(h:La f){i:Nat}(hi:i<f.2.2.1.length):(LA f i).length<=181000000000:=by
 obtain⟨g1,g2⟩:=IH h hi
 have h1:=Hg _ g1 g2
 have h2:=uQ (P8 i) f.2.2.2.1 300000000 (Vg h i)
 have h3:=uQ (S9 i) f.2.2.2.2.2.1 300000000 (GB h i)
 have:=h.n
 unfold LA
 simp only[List.length_append]
 omega
theorem cp{α:Type}(l:List α)(d:α)(C B:Nat)(f:α->zf)(s:zf){r:Int×Unit×List Int->T ((Int×Unit×List Int)⊕(Unit×List Int))}
  (step:∀ (k:Nat) (b:zf) (x:α),k<l.length->nth l (k:Int) d=x->x∈l->b.length+C<=B->(r ((k:Int),(),bytesOf b)).run=some (.inl (((k+1:Nat):Int),(),bytesOf (b++f x))))
  (done:∀ b,(r ((l.length:Int),(),bytesOf b)).run=some (.inr ((),bytesOf b))) (hf:∀ x∈l,(f x).length<=C) (hB:s.length+l.length*C<=B):(T.loop r (0,(),bytesOf s)).run=some ((),bytesOf (s++l.flatMap f)):=by
 rw[<- Cd]
 refine T.Ye (r:=r) l d (λ(b:zf) i=>(i,(),bytesOf b)) (λk b=>b.length<=s.length+k*C) (λb x=>b++f x) (λb=>((),bytesOf b)) (λk b x hk hx hm hI => ?_) (λb hI=>done b) (b:=s) (by omega)
 have h4:=EZ (c:=C) (show k+1<=l.length from hk)
 rw[Nat.add_mul,Nat.one_mul]at h4
 refine⟨step k b x hk hx hm (by omega),?_⟩
 have:=hf x hm
 rw[List.length_append,Nat.add_mul,Nat.one_mul]
 omega
theorem Qj(l:List Switch)(g:Switch->T Bool)(p:Switch->Bool)(hg:∀ x∈l,(g x).run=some (p x))(hl:l.length<=1000000000):(qu l g).run=some (l.any p):=by
 have key:(vT l g (l.length:Int) 0).run=some (if PL.mZ p 0 l = -1 then .inl ()else .inr (PL.mZ p 0 l)):=by
  refine PL.nM l (zq zG) p (λi h hi hp => ?_) (λi h hi hp => ?_) (λi hi => ?_)
  ·have hm:=yw (d:=zq zG) h hi
   simp(disch:=omega) [qt,hi,hg _ hm,hp]
  ·have hm:=yw (d:=zq zG) h hi
   simp(disch:=omega) [qt,hi,hg _ hm,hp]
  ·simp[qt,hi]
 have hx:(xB l g).run=some (PL.mZ p 0 l):=by
  unfold xB
  rw[z6 key]
  split<;>rename_i h<;>simp[h]
 unfold qu
 rw[z6 hx,z7,PL.sJ _ _ _ (Int.le_refl 0)]
theorem WC(l:List Param)(g:Param->T Bool)(p:Param->Bool)(hg:∀ x∈l,(g x).run=some (p x))(hl:l.length<=1000000000):(qC l g).run=some (l.any p):=by
 have key:(ub l g (l.length:Int) 0).run=some (if PL.mZ p 0 l = -1 then .inl ()else .inr (PL.mZ p 0 l)):=by
  refine PL.nM l (zq zV) p (λi h hi hp => ?_) (λi h hi hp => ?_) (λi hi => ?_)
  ·have hm:=yw (d:=zq zV) h hi
   simp(disch:=omega) [qD,hi,hg _ hm,hp]
  ·have hm:=yw (d:=zq zV) h hi
   simp(disch:=omega) [qD,hi,hg _ hm,hp]
  ·simp[qD,hi]
 have hx:(xK l g).run=some (PL.mZ p 0 l):=by
  unfold xK
  rw[z6 key]
  split<;>rename_i h<;>simp[h]
 unfold qC
 rw[z6 hx,z7,PL.sJ _ _ _ (Int.le_refl 0)]
theorem JQ(l:List xc)(g:xc->T Bool)(p:xc->Bool)(hg:∀ x∈l,(g x).run=some (p x))(hl:l.length<=1000000000):(qN l g).run=some (l.any p):=by
 have key:(uz l g (l.length:Int) 0).run=some (if PL.mZ p 0 l = -1 then .inl ()else .inr (PL.mZ p 0 l)):=by
  refine PL.nM l (zq q9) p (λi h hi hp => ?_) (λi h hi hp => ?_) (λi hi => ?_)
  ·have hm:=yw (d:=zq q9) h hi
   simp(disch:=omega) [qQ,hi,hg _ hm,hp]
  ·have hm:=yw (d:=zq q9) h hi
   simp(disch:=omega) [qQ,hi,hg _ hm,hp]
  ·simp[qQ,hi]
 have hx:(w8 l g).run=some (PL.mZ p 0 l):=by
  unfold w8
  rw[z6 key]
  split<;>rename_i h<;>simp[h]
 unfold qN
 rw[z6 hx,z7,PL.sJ _ _ _ (Int.le_refl 0)]
theorem UJ(l:List qV)(g:qV->T Bool)(p:qV->Bool)(hg:∀ x∈l,(g x).run=some (p x))(hl:l.length<=1000000000):(qJ l g).run=some (l.any p):=by
 have key:(uC l g (l.length:Int) 0).run=some (if PL.mZ p 0 l = -1 then .inl ()else .inr (PL.mZ p 0 l)):=by
  refine PL.nM l (zq ql) p (λi h hi hp => ?_) (λi h hi hp => ?_) (λi hi => ?_)
  ·have hm:=yw (d:=zq ql) h hi
   simp(disch:=omega) [qR,hi,hg _ hm,hp]
  ·have hm:=yw (d:=zq ql) h hi
   simp(disch:=omega) [qR,hi,hg _ hm,hp]
  ·simp[qR,hi]
 have hx:(w6 l g).run=some (PL.mZ p 0 l):=by
  unfold w6
  rw[z6 key]
  split<;>rename_i h<;>simp[h]
 unfold qJ
 rw[z6 hx,z7,PL.sJ _ _ _ (Int.le_refl 0)]
theorem Zx(s:zf):(jf s).run=some (mK s):=by
 unfold jf mK
 cases zk s []with
 | true=>rfl
 | false=>rw[zh,z6 (xi s)]; rfl
theorem CA(f:Form)(h:FS f):(bV f).run=some (a1 f&&(a2 f&&a3 f)):=by
 have hn:=h.n
 have h1:(qu f.1 (λz0=>wU z0)).run=some (f.1.any Ds):=Qj f.1 _ Ds (λx _=>by
  unfold wU Ds
  exact Sb (xi x.1)) (by omega)
 have h2:(qC f.2.1 (λz0=>wT z0)).run=some (f.2.1.any US):=WC f.2.1 _ US (λx hx=>by
  have hr:=(h.p x hx).2
  have hr:jo 100000000 x.2.1:=⟨hr.1,hr.2.1,by have:=hr.2.2.1; omega,by have:=hr.2.2.2; omega⟩
  unfold wT US
  exact Xr (xi x.1) (Xr (mR _ hr) (by rw[z6 (lW _ hr)]; rfl))) (by omega)
 have h3:(qN f.2.2.1 (λz0=>wN z0)).run=some (f.2.2.1.any N9):=JQ f.2.2.1 _ N9 (λx hx=>by
  unfold wN N9
  exact Xr (xi x.1) (Sb (Zx _))) (by omega)
 unfold bV a1 a2 a3
 rw[z6 h1]
 cases f.1.any Ds with
 | true=>rfl
 | false =>
  rw[zc (by rfl),z6 h2]
  cases f.2.1.any US with
  | true=>rfl
  | false=>rw[zc (by rfl),z6 h3,z7]; rfl
theorem td(pg at_ n:Int)(h:0<=at_):(kN pg at_ n).run=some (!(decide (pg<at_)||decide (n<=pg))):=by
 unfold kN
 have e1:pz at_ 0=at_:=by unfold pz; split<;>omega
 rw[e1,z7]
 by_cases q1:pg<at_<;>by_cases q2:n<=pg
 ·rw[decide_eq_true q1,decide_eq_false (by omega:¬ at_<=pg)]; rfl
 ·rw[decide_eq_true q1,decide_eq_false (by omega:¬ at_<=pg)]; rfl
 ·rw[decide_eq_true q2,decide_eq_false (by omega:¬ pg<n),Bool.and_false,Bool.or_true]; rfl
 ·rw[decide_eq_false q1,decide_eq_false q2,decide_eq_true (by omega:at_<=pg),decide_eq_true (by omega:pg<n)]; rfl
theorem oS(f:Form)(h:FS f):(gw f).run=some (a4 f):=by
 have hn:=h.n
 have key:(dX f f.2.2.2.1 (f.2.2.2.1.length:Int) (0,0)).run=some (if a4 f=true then .inl ()else .inr false):=by
  refine Xo (r:=ud f f.2.2.2.1 (f.2.2.2.1.length:Int)) f.2.2.2.1 (zq zQ) (Kc (f.2.2.1.length:Int)) (λx=>x.2.1) (λat_ x h0 hb => ?_) (λk at_ x hk hx hm h0 => ?_) (λat_ => ?_)
  ·unfold Kc at hb
   rw[Bool.or_eq_false_iff,decide_eq_false_iff_not]at hb
   exact Int.le_trans h0 (Int.not_lt.1 hb.1)
  ·unfold ud
   dsimp only
   rw[zc (ma hk),zd (vC hk),hx]
   refine(z6 (a:=(Kc (f.2.2.1.length:Int) at_ x,x)) ?_ _).trans ?_
   ·refine(Jr (xi x.1) (Jr (td x.2.1 at_ _ h0) (orP (z7 _)))).trans ?_
    unfold Kc
    cases zJ x.1<;>cases decide (x.2.1<at_)<;>cases decide ((f.2.2.1.length:Int)<=x.2.1)<;>cases decide (x.2.2.2.1<(0:Int))<;>cases decide ((9:Int)<x.2.2.2.1)<;>rfl
   ·dsimp only
    cases Kc (f.2.2.1.length:Int) at_ x with
    | true=>rfl
    | false=>rw[zh,z7,K5 k _ hk (by omega)]; rfl
  ·unfold ud
   dsimp only
   rw[za (pE _),z7]
 unfold gw
 rw[z6 key]
 cases a4 f<;>rfl
theorem DS(x:qV)(h1:jD x.2.2.2.1)(h2:jD x.2.2.2.2.1):(xI x).run=some (WE x):=by
 unfold xI
 have e:(T.bind (xl) λr2=>T.ite (decide ((Nat.cast (List.length r2):Int)<=x.2.1)) (.ret true) (T.bind (jf x.2.2.1) λr3=>T.ite (!r3) (.ret true) (T.bind (vI x.2.2.2.1) λr4=>T.ite (!r4) (.ret true) (T.bind (vI x.2.2.2.2.1) λr5=>.ret (!r5))))).run
   = some (decide ((4:Int)<=x.2.1)||(!mK x.2.2.1||(!uy 0 x.2.2.2.1 || !uy 0 x.2.2.2.2.1))):=by
  unfold xl
  exact orB (Xr (Zx _) (Xr (oo h1) (Sb (oo h2))))
 refine(Xr (xi x.1) (orB e)).trans ?_
 unfold WE
 rw[show decide ((4:Int)<=x.2.1)=decide ((3:Int)<x.2.1)from rfl]
 cases zJ x.1<;>cases mK x.2.2.1<;>cases decide ((3:Int)<x.2.1)<;>cases decide (x.2.1<(0:Int))<;>rfl
theorem oz(f:Form)(h:FS f):(gC f).run=some (a5 f&&a6 f):=by
 have hn:=h.n
 have key:(dU f f.2.2.2.2.2.1 (f.2.2.2.2.2.1.length:Int) (0,0)).run=some (if a5 f=true then .inl ()else .inr false):=by
  refine Xo (r:=u6 f f.2.2.2.2.2.1 (f.2.2.2.2.2.1.length:Int)) f.2.2.2.2.2.1 (zq q8) (Kb (f.2.2.1.length:Int)) (λx=>x.2.1) (λat_ x h0 hb => ?_) (λk at_ x hk hx hm h0 => ?_) (λat_ => ?_)
  ·unfold Kb at hb
   rw[Bool.or_eq_false_iff,decide_eq_false_iff_not]at hb
   exact Int.le_trans h0 (Int.not_lt.1 hb.1)
  ·obtain⟨_,x1,x2⟩:=h.c x hm
   unfold u6
   dsimp only
   rw[zc (ma hk),zd (vC hk),hx]
   simp only[mv]
   refine(z6 (a:=(Kb (f.2.2.1.length:Int) at_ x,x)) ?_ _).trans ?_
   ·have e:(T.bind (wb) λr2=>T.ite (decide ((Nat.cast (List.length r2):Int)<=x.2.2.1)) (.ret (true,x)) (T.bind (vI x.2.2.2.1) λr3=>T.ite (!r3) (.ret (true,x)) (T.bind (vI x.2.2.2.2.1) λr4=>.ret ((!r4),x)))).run
      = some (decide ((3:Int)<=x.2.2.1)||(!uy 0 x.2.2.2.1 || !uy 0 x.2.2.2.2.1),x):=by
     unfold wb
     exact orP (Jr (oo x1) (z4o (oo x2)))
    refine(Jr (xi x.1) (Jr (td x.2.1 at_ _ h0) (orP e))).trans ?_
    unfold Kb
    rw[show decide ((3:Int)<=x.2.2.1)=decide ((2:Int)<x.2.2.1)from rfl]
    cases zJ x.1<;>cases decide (x.2.1<at_)<;>cases decide ((f.2.2.1.length:Int)<=x.2.1)<;>cases decide (x.2.2.1<(0:Int))<;>cases decide ((2:Int)<x.2.2.1)<;>rfl
   ·dsimp only
    cases Kb (f.2.2.1.length:Int) at_ x with
    | true=>rfl
    | false=>rw[zh,z7,K5 k _ hk (by omega)]; rfl
  ·unfold u6
   dsimp only
   rw[za (pE _),z7]
 have h3:(qJ f.2.2.2.2.1 (λz0=>xI z0)).run=some (f.2.2.2.2.1.any WE):=UJ f.2.2.2.2.1 _ WE (λx hx=>by
  obtain⟨_,_,x1,x2⟩:=h.r x hx
  exact DS x x1 x2) (by omega)
 unfold gC
 rw[z6 key]
 cases a5 f with
 | false=>rfl
 | true =>
  rw[if_pos rfl,Sum.elim_inl,z6 h3,z7]
  rfl
theorem VW(s:zf)(h:s.length<=600):(bg s).run=some (OK s):=by
 unfold bg OK
 cases s with
 | nil=>rfl
 | cons b r=>rw[za (by rfl),zP _ (by simp only[List.length_cons,List.length_nil]at *; omega),z7,if_neg (by simp)]; rfl
theorem D7(x:Field)(h:x.1.length<=600)(h1:K0 0 x.2.2.2.1)(h2:K0 x.2.2.2.1 9):(bT x).run=some (SV x):=by
 have hi:=I7 x.2.2.2.1 ⟨by unfold K0 at *; omega,by unfold K0 at *; omega⟩
 have hl:=Ud x.2.2.2.1 ⟨by unfold K0 at *; omega,by unfold K0 at *; omega⟩
 obtain⟨nm,pg,mu,sc,u⟩:=x
 have h:nm.length<=600:=h
 dsimp only at hi hl
 unfold bT SV
 dsimp only
 have e:(bif mu then(cat (cat ([102,105,101,108,100,32]:zf) nm) ([32,109,117,115,116]:zf))else(cat ([102,105,101,108,100,32]:zf) nm))=T1 (nm,pg,mu,sc,u):=rfl
 have hf:(T1 (nm,pg,mu,sc,u)).length<=nm.length+11:=HH _
 rw[zP _ (by simp only[List.length_cons,List.length_nil]; omega),zd (λ_=>by simp only[xL,List.length_cons,List.length_nil]; omega),e]
 by_cases hs:ilt 0 sc
 ·rw[zc (decide_eq_true hs),z6 hi,zP _ (by simp only[List.length_cons,List.length_nil]; omega),zP _ (by simp only[xL,List.length_cons,List.length_nil]; omega),zP _ (by simp only[xL,List.length_cons,List.length_nil]; omega),z7,if_pos hs]
  rfl
 ·rw[za (decide_eq_false hs),zP _ (by simp only[List.length_cons,List.length_nil]; omega),z7,if_neg hs]
  rfl
theorem QM(l r:Expr)(s:zf)(hs:s.length<=8)(h1:jD l)(h2:jD r)(o1:uy 0 l=true)(o2:uy 0 r=true):(yE l s r).run=some (NA l s r):=by
 have l1:=n8 h1 o1
 have l2:=n8 h2 o2
 unfold yE
 rw[z6 (Hd h1 o1)]
 rw[zP _ (by simp only[List.length_cons,List.length_nil]; omega),zP _ (by simp only[xL,List.length_cons,List.length_nil]; omega),zP _ (by simp only[xL,List.length_cons,List.length_nil]; omega),zP _ (by simp only[xL,List.length_cons,List.length_nil]; omega)]
 rw[z6 (Hd h2 o2)]
 rw[zP _ (by simp only[xL,List.length_cons,List.length_nil]; omega),zP _ (by simp only[xL,List.length_cons,List.length_nil]; omega),z7]
 rfl
theorem Me(n:Int)(h:0<=n)(h2:n<=2):nth ([([61]:zf),([60]:zf),([60,61]:zf)]:List zf) n (zq .str)=yV n:=by
 have:n=0\/n=1\/n=2:=by omega
 rcases this with rfl | rfl | rfl<;>rfl
theorem MC(n:Int)(h:0<=n)(h2:n<=3):nth ([([114,101,113,117,105,114,101,100]:zf),([115,116,114,111,110,103]:zf),([109,101,100,105,117,109]:zf),([119,101,97,107]:zf)]:List zf) n (zq .str)=ET n:=by
 have:n=0\/n=1\/n=2\/n=3:=by omega
 rcases this with rfl | rfl | rfl | rfl<;>rfl
theorem DR(f:Form)(h:La f)(i:Nat)(hi:i<f.2.2.1.length)(b:zf)(hb:b.length<=110000000000000):(gJ f (i:Int) () (bytesOf b)).run=some ((),bytesOf (b++LA f i)):=by
 have hn:=h.n
 obtain⟨g1,g2⟩:=IH h hi
 have hp:=Hg _ g1 g2
 have hw:=sB (nth f.2.2.1 (i:Int) (zq q9)).2.1
 have k1:∀ s:zf,s.length<=115000000000000->(eb (i:Int) f f.2.2.2.1 (f.2.2.2.1.length:Int) (0,(),bytesOf s)).run=some ((),bytesOf (s++f.2.2.2.1.flatMap (P8 i))):=λs hs=>by
  refine cp (r:=ue (i:Int) f f.2.2.2.1 (f.2.2.2.1.length:Int)) f.2.2.2.1 (zq zQ) 300000000 120000000000000 (P8 i) s (λk b x hk hx hm hb => ?_) (λb => ?_) (Vg h i) (by omega)
  ·unfold ue P8
   dsimp only
   rw[zc (ma hk),zd (vC hk),hx]
   cases hc:x.2.1==(i:Int)with
   | true =>
    have fl:=Bh x (h.d x hm) (h.d2 x hm).1 (h.d2 x hm).2
    rw[zm,z6 (D7 x (h.d x hm) (h.d2 x hm).1 (h.d2 x hm).2),zH _ rfl rfl rfl,T.zg,z6 (vn (SV x) b (by omega))]
    dsimp only
    rw[zH _ rfl rfl rfl,T.zg,z7,K5 k _ hk (by omega),if_pos rfl]
   | false =>
    rw[zh,zH _ rfl rfl rfl,T.zg,z7,K5 k _ hk (by omega),if_neg (by decide),List.append_nil]
  ·unfold ue
   dsimp only
   rw[za (pE _),zH _ rfl rfl rfl,T.zg,z7]
 have k2:∀ s:zf,s.length<=120000000000000->(dY (i:Int) f.2.2.2.2.2.1 (f.2.2.2.2.2.1.length:Int) (0,(),bytesOf s)).run=some ((),bytesOf (s++f.2.2.2.2.2.1.flatMap (S9 i))):=λs hs=>by
  refine cp (r:=ua (i:Int) f.2.2.2.2.2.1 (f.2.2.2.2.2.1.length:Int)) f.2.2.2.2.2.1 (zq q8) 300000000 130000000000000 (S9 i) s (λk b x hk hx hm hb => ?_) (λb => ?_) (GB h i) (by omega)
  ·unfold ua S9
   dsimp only
   rw[zc (ma hk),zd (vC hk),hx]
   cases hc:x.2.1==(i:Int)with
   | true =>
    obtain⟨q1,q2,q3⟩:=h.c x hm
    obtain⟨c1,c2,o1,o2⟩:=h.c2 x hm
    have cl:=GG x q1 q2 q3 o1 o2
    have hs:=QM x.2.2.2.1 x.2.2.2.2.1 (yV x.2.2.1) (by have:=Zs x.2.2.1; omega) q2 q3 o1 o2
    have sl:=sN (yV x.2.2.1) (by have:=Zs x.2.2.1; omega) q2 q3 o1 o2
    unfold wb
    rw[zm,zP _ (by simp only[List.length_cons,List.length_nil]; omega)]
    simp only[T.bind,mv]
    have c3:x.2.2.1<((3:Nat):Int):=Int.lt_of_le_of_lt c2 (by decide)
    rw[zd ⟨c1,c3⟩,Me _ c1 c2,z6 hs,zP _ (by simp only[xL,List.length_cons,List.length_nil]; omega),zH _ rfl rfl rfl,zd rfl]
    have e:cat (cat ([99,104,101,99,107,32]:zf) x.1) (NA x.2.2.2.1 (yV x.2.2.1) x.2.2.2.2.1)=Tn x:=rfl
    rw[e,z6 (vn (Tn x) b (by omega))]
    dsimp only
    rw[zH _ rfl rfl rfl,zd rfl,z7,K5 k _ hk (by omega),if_pos trivial]
   | false =>
    rw[zh,zH _ rfl rfl rfl,T.zg,z7,K5 k _ hk (by omega),if_neg (by decide),List.append_nil]
  ·unfold ua
   dsimp only
   rw[za (pE _),zH _ rfl rfl rfl,T.zg,z7]
 have l2:=uQ (P8 i) f.2.2.2.1 300000000 (Vg h i)
 unfold gJ
 rw[zd (vC hi),zP _ (by simp only[List.length_cons,List.length_nil]; omega),zd (vC hi),z6 (VW _ g2),zP _ (by simp only[xL,List.length_cons,List.length_nil]; omega),zP _ (by simp only[xL,List.length_cons,List.length_nil]; omega),zH _ rfl rfl rfl,T.zg]
 have e:cat (cat (cat ([112,97,103,101,32]:zf) (nth f.2.2.1 (i:Int) (zq q9)).1) (OK (nth f.2.2.1 (i:Int) (zq q9)).2.1)) ([10]:zf)=phS (nth f.2.2.1 (i:Int) (zq q9)):=rfl
 rw[e,z6 (vn _ b (by omega))]
 dsimp only
 rw[zH _ rfl rfl rfl,T.zg,z6 (k1 _ (by rw[List.length_append]; omega))]
 dsimp only
 rw[zH _ rfl rfl rfl,T.zg,z6 (k2 _ (by rw[List.length_append,List.length_append]; omega))]
 dsimp only
 rw[zH _ rfl rfl rfl,T.zg,z7]
 unfold LA
 simp only[List.append_assoc]
theorem Ca(n k:Nat)(h:k<n):nth (List.range n) (k:Int) 0=k:=by
 rw[oR (by rw[List.length_range]; exact h),List.getElem_range]
theorem EC{f:Form}(h:La f):(f.1.flatMap M4).length<=f.1.length*300000000:=uQ M4 f.1 300000000 λx hx=>Vj x (h.s x hx)
theorem EG{f:Form}(h:La f):(f.2.1.flatMap LS).length<=f.2.1.length*300000000:=uQ LS f.2.1 300000000 λx hx=>V9 x (h.p x hx).1 (h.p x hx).2
theorem E7{f:Form}(h:La f):((List.range f.2.2.1.length).flatMap (LA f)).length<=f.2.2.1.length*181000000000:=by
 have:=uQ (LA f) (List.range f.2.2.1.length) 181000000000 (λx hx=>GZ h (List.mem_range.1 hx))
 rwa [List.length_range]at this
theorem Ip{f:Form}(h:La f):(f.2.2.2.2.1.flatMap Db).length<=f.2.2.2.2.1.length*300000000:=uQ Db f.2.2.2.2.1 300000000 λx hx=>by
 obtain⟨q1,q2,q3,q4⟩:=h.r x hx
 obtain⟨_,_,o1,o2⟩:=h.r2 x hx
 exact Vy x q1 q2 q3 q4 o1 o2
theorem ea(f:Form)(h:La f):(yS f).run=some (frS f):=by
 have hn:=h.n
 have m1:=EC h
 have m2:=EG h
 have m3:=E7 h
 have m4:=Ip h
 have k1:(fe f f.1 (f.1.length:Int) (0,(),bytesOf [])).run=some ((),bytesOf ([]++f.1.flatMap M4)):=by
  refine cp (r:=uM f f.1 (f.1.length:Int)) f.1 (zq zG) 300000000 110000000000000 M4 [] (λk b x hk hx hm hb => ?_) (λb => ?_) (λx hx=>Vj x (h.s x hx)) (by simp only[List.length_nil]; omega)
  ·have q:=h.s x hm
   have sl:=Vj x q
   have bl:(bif x.2.1 then([32,111,110,10]:zf)else[32,111,102,102,10]).length<=5:=by cases x.2.1<;>decide
   unfold uM
   dsimp only
   rw[zc (ma hk),zd (vC hk),hx,zP _ (by simp only[List.length_cons,List.length_nil]; omega),zP _ (by simp only[xL,List.length_cons,List.length_nil]; omega),zH _ rfl rfl rfl,T.zg]
   have e:cat (cat ([115,119,105,116,99,104,32]:zf) x.1) (bif x.2.1 then([32,111,110,10]:zf)else([32,111,102,102,10]:zf))=M4 x:=rfl
   rw[e,z6 (vn (M4 x) b (by omega))]
   dsimp only
   rw[zH _ rfl rfl rfl,T.zg,z7,K5 k _ hk (by omega)]
  ·unfold uM
   dsimp only
   rw[za (pE _),zH _ rfl rfl rfl,T.zg,z7]
 have k2:∀ s:zf,s.length<=190000000000->(eQ f f.2.1 (f.2.1.length:Int) (0,(),bytesOf s)).run=some ((),bytesOf (s++f.2.1.flatMap LS)):=λs hs=>by
  refine cp (r:=uW f f.2.1 (f.2.1.length:Int)) f.2.1 (zq zV) 300000000 110000000000000 LS s (λk b x hk hx hm hb => ?_) (λb => ?_) (λx hx=>V9 x (h.p x hx).1 (h.p x hx).2) (by omega)
  ·obtain⟨q,hr⟩:=h.p x hm
   have hr:jo 1000 x.2.1:=⟨hr.1,hr.2.1,by have:=hr.2.2.1; omega,by have:=hr.2.2.2; omega⟩
   have sl:=V9 x q (h.p x hm).2
   have hd:(cG (x.2.1.1,(x.2.1.2.1,(x.2.1.2.2.1,())))).run=some (fE (norm x.2.1)):=Qr x.2.1 hr
   have pl:=ZI _ hr
   unfold uW
   dsimp only
   rw[zc (ma hk),zd (vC hk),hx,zP _ (by simp only[List.length_cons,List.length_nil]; omega),zP _ (by simp only[xL,List.length_cons,List.length_nil]; omega),z6 hd,zP _ (by simp only[xL,List.length_cons,List.length_nil]; omega),zP _ (by simp only[xL,List.length_cons,List.length_nil]; omega),zH _ rfl rfl rfl,T.zg]
   have e:cat (cat (cat (cat ([112,97,114,97,109,32]:zf) x.1) ([32]:zf)) (fE (norm x.2.1))) ([10]:zf)=LS x:=rfl
   rw[e,z6 (vn (LS x) b (by omega))]
   dsimp only
   rw[zH _ rfl rfl rfl,T.zg,z7,K5 k _ hk (by omega)]
  ·unfold uW
   dsimp only
   rw[za (pE _),zH _ rfl rfl rfl,T.zg,z7]
 have k3:∀ s:zf,s.length<=380000000000->(fZ f (f.2.2.1.length:Int) (0,(),bytesOf s)).run=some ((),bytesOf (s++(List.range f.2.2.1.length).flatMap (LA f))):=λs hs=>by
  refine cp (r:=uS f (f.2.2.1.length:Int)) (List.range f.2.2.1.length) 0 181000000000 110000000000000 (LA f) s (λk b x hk hx hm hb => ?_) (λb => ?_) (λx hx=>GZ h (List.mem_range.1 hx)) (by rw[List.length_range]; omega)
  ·rw[List.length_range]at hk
   rw[Ca _ _ hk]at hx
   subst hx
   unfold uS
   dsimp only
   rw[zc (ma hk),zH _ rfl rfl rfl,T.zg,z6 (DR f h k hk b (by omega))]
   dsimp only
   rw[zH _ rfl rfl rfl,T.zg,z7,K5 k _ hk (by omega)]
  ·unfold uS
   dsimp only
   rw[List.length_range,za (pE _),zH _ rfl rfl rfl,T.zg,z7]
 have k4:∀ s:zf,s.length<=109000000000000->(eR f.2.2.2.2.1 (f.2.2.2.2.1.length:Int) (0,(),bytesOf s)).run=some ((),bytesOf (s++f.2.2.2.2.1.flatMap Db)):=λs hs=>by
  refine cp (r:=uX f.2.2.2.2.1 (f.2.2.2.2.1.length:Int)) f.2.2.2.2.1 (zq ql) 300000000 110000000000000 Db s (λk b x hk hx hm hb => ?_) (λb => ?_) (λx hx=>by
   obtain⟨q1,q2,q3,q4⟩:=h.r x hx
   obtain⟨_,_,o1,o2⟩:=h.r2 x hx
   exact Vy x q1 q2 q3 q4 o1 o2) (by omega)
  ·obtain⟨q1,q2,q3,q4⟩:=h.r x hm
   obtain⟨c1,c2,o1,o2⟩:=h.r2 x hm
   have rl:=Vy x q1 q2 q3 q4 o1 o2
   have hs:=QM x.2.2.2.1 x.2.2.2.2.1 [61] (by decide) q3 q4 o1 o2
   have sl:=sN [61] (by decide) q3 q4 o1 o2
   have tl:=JP x.2.1
   have wl:=sB x.2.2.1
   have c3:x.2.1<((4:Nat):Int):=Int.lt_of_le_of_lt c2 (by decide)
   unfold uX xl
   dsimp only
   rw[zc (ma hk),zd (vC hk),hx]
   simp only[T.bind,mv]
   rw[zd ⟨c1,c3⟩,MC _ c1 c2,zP _ (by simp only[List.length_cons,List.length_nil]; omega),zP _ (by simp only[xL,List.length_cons,List.length_nil]; omega),zP _ (by simp only[xL,List.length_cons,List.length_nil]; omega),z6 (VW _ q2),
    zP _ (by simp only[xL,List.length_cons,List.length_nil]; omega),z6 hs,zP _ (by simp only[xL,List.length_cons,List.length_nil]; omega),zH _ rfl rfl rfl,zd rfl]
   have e:cat (cat (cat (cat (cat ([114,117,108,101,32]:zf) (ET x.2.1)) ([32]:zf)) x.1) (OK x.2.2.1)) (NA x.2.2.2.1 [61] x.2.2.2.2.1)=Db x:=rfl
   rw[e,z6 (vn (Db x) b (by omega))]
   dsimp only
   rw[zH _ rfl rfl rfl,zd rfl,z7,K5 k _ hk (by omega)]
  ·unfold uX
   dsimp only
   rw[za (pE _),zH _ rfl rfl rfl,T.zg,z7]
 unfold yS
 rw[zH _ rfl rfl rfl,T.zg]
 refine(z6 k1 _).trans ?_
 dsimp only
 rw[List.nil_append,zH _ rfl rfl rfl,T.zg,z6 (k2 _ (by omega))]
 dsimp only
 rw[zH _ rfl rfl rfl,T.zg,z6 (k3 _ (by rw[List.length_append]; omega))]
 dsimp only
 rw[zH _ rfl rfl rfl,T.zg,z6 (k4 _ (by simp only[List.length_append]; omega))]
 dsimp only
 rw[zH _ rfl rfl rfl,T.zg,z6 (Qu _ (by simp only[List.length_append]; omega))]
 rfl
def Jy(f:Form):Bool:=a1 f&&(a2 f&&(a3 f&&(a4 f&&(a5 f&&(a6 f&&decide (((frS f).length:Int)<=16384))))))
theorem n0(f:Form)(h:FS f):(cu f).run=some (Jy f):=by
 unfold cu Jy
 rw[z6 (CA f h)]
 cases a1 f with
 | false=>rfl
 | true =>
 cases a2 f with
 | false=>rfl
 | true =>
 cases a3 f with
 | false=>rfl
 | true =>
 rw[zc (by rfl),z6 (oS f h)]
 cases h4:a4 f with
 | false=>rfl
 | true =>
 rw[zc (by rfl),z6 (oz f h)]
 cases h5:a5 f with
 | false=>rfl
 | true =>
 cases h6:a6 f with
 | false=>rfl
 | true =>
 rw[zc (by rfl),z6 (ea f (P1 h h4 h5 h6)),z7]
 rfl
end Go.AM.Lf
namespace Go.AM
theorem T.GK{σ ρ:Type}{b:(σ->T ρ)->σ->T ρ}(R:Nat->σ->ρ->Prop)(h0:∀ x y,¬ R 0 x y)
  (h:∀ n x y,R (n+1) x y->∀ g:σ->T ρ,(∀ x' y',R n x' y'->(g x').run=some y')->(b g x).run=some y) {n:Nat} {x:σ} {y:ρ} (hx:R n x y):(T.fix b x).run=some y:=by
 rw[xU,cI]
 refine⟨n,λm hm => ?_⟩
 induction n generalizing m x y with
 | zero=>exact absurd hx (h0 _ _)
 | succ n ih =>
  cases m with
  | zero=>omega
  | succ m =>
   rw[<- xU]
   exact h n x y hx (JE b m) λx' y' hr=>by rw[xU]; exact ih hr m (by omega)
end Go.AM
namespace Go.AM.PL
def eI:zf->zf
 | []=>[]
 | c::r=>if c=32 then eI r else c::r
def yc(p:UInt8->Bool):Nat->zf->zf×zf
 | 0,r=>([],r)
 | _+1,[]=>([],[])
 | n+1,c::r=>if p c=true then(c::(yc p n r).1,(yc p n r).2)else([],c::r)
theorem nV(p:UInt8->Bool):∀ (n:Nat) (r:zf),(yc p n r).1++(yc p n r).2=r
 | 0,r=>rfl
 | _+1,[]=>rfl
 | n+1,c::r=>by
  unfold yc
  split
  ·rw[List.cons_append,nV p n r]
  ·rfl
theorem Zm(p:UInt8->Bool):∀ (n:Nat) (r:zf),r.length<=n->yc p n r=(r.takeWhile p,r.dropWhile p)
 | 0,[],_=>rfl
 | 0,c::r,h=>by simp at h
 | _+1,[],_=>rfl
 | n+1,c::r,h=>by
  unfold yc
  rw[Zm p n r (by simp at h; omega)]
  cases hp:p c with
  | true=>simp[hp]
  | false=>simp[hp]
theorem gB:∀ (r:zf),eI r <:+ r
 | []=>List.suffix_refl _
 | c::r=>by
  unfold eI
  split
  ·exact List.IsSuffix.trans (gB r) (List.suffix_cons c r)
  ·exact List.suffix_refl _
theorem UG:∀ (r:zf) (c:UInt8) (q:zf),eI r=c::q->c≠32
 | [],_,_,h=>by cases h
 | b::r,c,q,h=>by
  unfold eI at h
  split at h
  ·exact UG r c q h
  ·cases h; assumption
theorem VV(r:zf):eI (eI r)=eI r:=by
 cases h:eI r with
 | nil=>rfl
 | cons c q=>unfold eI; rw[if_neg (UG r c q h)]
theorem WS(r:zf):(eI r).length<=r.length:=(gB r).length_le
theorem tR(p:UInt8->Bool)(n:Nat)(r:zf):(yc p n r).2 <:+ r:=⟨(yc p n r).1,nV p n r⟩
def wS(s r:zf):Nat:=s.length-r.length
theorem D4(s:zf):wS s s=0:=by unfold wS; omega
theorem FB(s:zf):wS s []=s.length:=rfl
theorem kU{c:UInt8}{r s:zf}(h:(c::r) <:+ s):r <:+ s:=List.IsSuffix.trans (List.suffix_cons c r) h
theorem kf{c:UInt8}{r s:zf}(h:(c::r) <:+ s):wS s r=wS s (c::r)+1/\wS s (c::r)<s.length:=by
 have:=h.length_le
 simp only[List.length_cons]at this
 unfold wS; simp only[List.length_cons]; omega
theorem DN{r s:zf}(h:r <:+ s):s.drop (wS s r)=r:=by
 obtain⟨t,rfl⟩:=h
 unfold wS
 rw[List.length_append,Nat.add_sub_cancel,List.drop_left]
theorem yR{c:UInt8}{r s:zf}(h:(c::r) <:+ s):qz s ((wS s (c::r):Nat):Int)=(c.toNat:Int):=by
 have h1:=kf h
 rw[b8 h1.2]
 have h2:=DN h
 rw[List.drop_eq_getElem_cons h1.2]at h2
 injection h2 with h2 _
 rw[h2]
theorem No{r q s:zf}(h:r <:+ q)(h2:q <:+ s):wS s q<=wS s r:=by
 have:=h.length_le; unfold wS; omega
theorem F4{a r q s:zf}(h:r <:+ s)(e:a++q=r):um ((wS s r:Nat):Int) ((wS s q:Nat):Int) s=a:=by
 subst e
 obtain⟨t,rfl⟩:=h
 unfold um wS
 rw[Int.toNat_natCast,Int.toNat_natCast]
 simp only[List.length_append]
 rw[show t.length+(a.length+q.length)-q.length=t.length+a.length by omega,show t.length+(a.length+q.length)-(a.length+q.length)=t.length by omega,<- List.append_assoc,<- List.length_append,List.take_left,List.drop_left]
theorem JI:∀ (l:zf) (c:UInt8),decide ((0:Int)<=eK l c)=l.contains c
 | [],_=>rfl
 | b::l,c=>by
  have ih:=JI l c
  unfold eK
  rw[List.contains_cons]
  by_cases h:b=c
  ·subst h; simp
  ·have h':(b==c)=false:=by simpa using h
   have h'':(c==b)=false:=by simpa using λe:c=b=>h e.symm
   rw[h',h'',Bool.false_or,<- ih]
   have hge:∀ l:zf,eK l c = -1\/0<=eK l c:=by
    intro l
    induction l with
    | nil=>exact .inl rfl
    | cons x l ih =>
     unfold eK
     split
     ·right; omega
     ·split
      ·left; rfl
      ·right
       rename_i vP
       rcases ih with h | h
       ·exact absurd (by simpa using h) vP
       ·omega
   rcases hge l with h | h
   ·rw[h]; rfl
   ·have:(eK l c == -1)=false:=by simp; omega
    simp only[this,Bool.false_eq_true,if_false]
    rw[decide_eq_true (by omega),decide_eq_true (by omega)]
theorem Zf(c:UInt8):byteOf (c.toNat:Int)=c:=by unfold byteOf; simp
end Go.AM.PL
namespace Go.AM.Lf
open PL
def qi(s r:zf)(d:Nat)(l:Bool):z8:=(s,((wS s r:Nat):Int),(d:Int),l,())
theorem wv(s r:zf)(d:Nat)(l:Bool):(qi s r d l).1=s:=rfl
theorem vg(s r:zf)(d:Nat)(l:Bool):(qi s r d l).2.1=((wS s r:Nat):Int):=rfl
theorem tD(s r:zf)(d:Nat)(l:Bool):(qi s r d l).2.2.1=(d:Int):=rfl
theorem tT{s r:zf}{c:UInt8}(d:Nat)(l:Bool)(h:(c::r) <:+ s)(hs:s.length<=1000000):((s,zZ (((wS s (c::r):Nat):Int)+1),(d:Int),l,()):z8)=qi s r d l:=by
 have:=kf h
 unfold qi
 rw[zI (by omega) (by omega),this.1]
 rfl
theorem nn{s r:zf}{c:UInt8}(h:(c::r) <:+ s):decide (((wS s (c::r):Nat):Int)<(s.length:Int))=true:=decide_eq_true (by have:=kf h; omega)
theorem Zh(s:zf):decide (((wS s []:Nat):Int)<(s.length:Int))=false:=by rw[FB]; exact decide_eq_false (by omega)
theorem dx{s r:zf}{c:UInt8}(h:(c::r) <:+ s):qO ((wS s (c::r):Nat):Int) s.length:=⟨by omega,by have:=kf h; omega⟩
theorem Nw(c b:UInt8):((c.toNat:Int)==(b.toNat:Int))=decide (c=b):=by
 by_cases h:c=b
 ·subst h; simp
 ·rw[decide_eq_false h]
  simp only[beq_eq_false_iff_ne,ne_eq]
  intro e
  exact h (UInt8.toNat_inj.1 (by omega))
theorem rS(s:zf)(hs:s.length<=1000000)(d:Nat)(l:Bool):∀ (r:zf),r <:+ s->(jZ (qi s r d l)).run=some (qi s (eI r) d l)
 | [],_=>by
  refine xw ?_
  unfold xv
  dsimp only
  rw[vg,wv,Zh,zd (λh=>by cases h),za (by rfl),z7]
  rfl
 | c::r,h=>by
  have e:(xv (qi s (c::r) d l)).run=some (if c=32 then .inl (qi s r d l)else .inr (qi s (c::r) d l)):=by
   unfold xv
   dsimp only
   rw[vg,wv,nn h,zd (λ_=>dx h),Bool.true_and,yR h,show((c.toNat:Int)==32)=decide (c=32)from Nw c 32]
   by_cases hc:c=32
   ·rw[zc (by simpa using hc),z7,if_pos hc]
    show some (Sum.inl (s,zZ (((wS s (c::r):Nat):Int)+1),(d:Int),l,()))=_
    rw[tT d l h hs]
   ·rw[za (by simpa using hc),z7,if_neg hc]
  unfold eI
  by_cases hc:c=32
  ·rw[if_pos hc]at e ⊢
   exact(j6 e).trans (rS s hs d l r (kU h))
  ·rw[if_neg hc]at e ⊢
   exact xw e
theorem Gb(s:zf)(hs:s.length<=1000000)(d:Nat)(l:Bool)(r:zf)(h:r <:+ s):(vz (qi s r d l)).run=some (qi s (eI r) d l):=by
 unfold vz
 rw[z6 (rS s hs d l r h),z7]
def uY(some:zf)(r:zf):Option (UInt8×zf):=match eI r with
 | []=>none
 | c::q=>if some.contains c=true then .some (c,q)else none
theorem mJ(s:zf)(hs:s.length<=1000000)(d:Nat)(l:Bool)(r:zf)(h:r <:+ s)(m:zf) :
  (qF m (qi s r d l)).run=some (match uY m r with | some (c,q)=>((c.toNat:Int),qi s q d l) | none=>(0,qi s (eI r) d l)):=by
 have hk:=List.IsSuffix.trans (gB r) h
 unfold qF uY
 rw[z6 (Gb s hs d l r h)]
 cases e:eI r with
 | nil =>
  rw[z6 (a:=(false,qi s [] d l)) (by rw[vg,wv,Zh,zh,z7]),zh,z7]
 | cons c q =>
  rw[e]at hk
  have hi:(strings_IndexByte m (c.toNat:Int)).run=some (eK m c):=by unfold strings_IndexByte; rw[z7,Zf]
  rw[z6 (a:=(m.contains c,qi s (c::q) d l)) (by rw[vg,wv,nn hk,zm,zd (dx hk),yR hk,z6 hi,z7,JI])]
  have hp:=kf hk
  dsimp only
  cases hc:m.contains c with
  | false=>rw[zh,z7]; rfl
  | true =>
   rw[zm,vg,wv,zI (x:=((wS s (c::q):Nat):Int)+1) (by omega) (by omega),show((wS s (c::q):Nat):Int)+1-1=((wS s (c::q):Nat):Int) by omega,zI (by omega) (by omega),zd (dx hk),z7,yR hk]
   rw[show((wS s (c::q):Nat):Int)+1=((wS s q:Nat):Int) by omega]
   rfl
theorem oP(b:UInt8):(xk (b.toNat:Int)).run=some (uN b):=by
 unfold xk uN
 rw[z7]
 congr 1
 by_cases h1:48<=b.toNat<;>by_cases h2:b.toNat<=57<;>simp[h1,h2]<;>omega
theorem CV(b:UInt8):(xZ (b.toNat:Int)).run=some (Q5 b):=rfl
theorem Yu(s:zf)(hs:s.length<=1000000)(d:Nat)(l:Bool)(is:Int->T Bool)(p:UInt8->Bool)(hp:∀ b:UInt8,(is (b.toNat:Int)).run=some (p b))(f m:Nat)(hm:m<=1000000) :
  ∀ (n:Nat) (r:zf),r <:+ s->f<=wS s r->wS s r-f+n=m->(kE is (m:Int) (f:Int) (qi s r d l)).run=some (qi s (yc p n r).2 d l):=by
 intro n r
 induction r generalizing n with
 | nil =>
  intro h hf he
  have:(yc p n []).2=[]:=by cases n<;>rfl
  rw[this]
  refine xw ?_
  unfold qy
  dsimp only
  rw[z6 (a:=(false,qi s [] d l)) (by rw[vg,wv,Zh,zh,z7]),zh,z7]
 | cons c r ih =>
  intro h hf he
  have oa:=kf h
  cases n with
  | zero =>
   refine xw ?_
   unfold qy
   dsimp only
   rw[z6 (a:=(false,qi s (c::r) d l)) (by rw[vg,wv,nn h,zm,zI (by omega) (by omega),za (decide_eq_false (by omega)),z7]),zh,z7]
   rfl
  | succ n =>
   have e:(qy is (m:Int) (f:Int) (qi s (c::r) d l)).run=some (if p c=true then .inl (qi s r d l)else .inr (qi s (c::r) d l)):=by
    unfold qy
    dsimp only
    rw[z6 (a:=(p c,qi s (c::r) d l)) (by rw[vg,wv,nn h,zm,zI (by omega) (by omega),zc (decide_eq_true (by omega)),zd (dx h),yR h,z6 (hp c),z7])]
    dsimp only
    cases p c with
    | false=>rfl
    | true =>
     rw[zm,z7,if_pos rfl]
     show some (Sum.inl (s,zZ (((wS s (c::r):Nat):Int)+1),(d:Int),l,()))=_
     rw[tT d l h hs]
   unfold yc
   by_cases hc:p c=true
   ·rw[if_pos hc]at e ⊢
    exact(j6 e).trans (ih n (kU h) (by omega) (by omega))
   ·rw[if_neg hc]at e ⊢
    exact xw e
theorem pe(s:zf)(hs:s.length<=1000000)(d:Nat)(l:Bool)(is:Int->T Bool)(p:UInt8->Bool)(hp:∀ b:UInt8,(is (b.toNat:Int)).run=some (p b))(m:Nat)(hm:m<=1000000)(r:zf)(h:r <:+ s) :
  (qG is (m:Int) (qi s r d l)).run=some ((yc p m r).1,qi s (yc p m r).2 d l):=by
 unfold qG
 have h2:=List.IsSuffix.trans (tR p m r) h
 have h3:=No (tR p m r) h
 have h4:wS s (yc p m r).2<=s.length:=by unfold wS; omega
 rw[vg,z6 (Yu s hs d l is p hp (wS s r) m hm m r h (Nat.le_refl _) (by omega))]
 rw[vg,wv,zd ⟨by omega,by omega,by omega⟩,z7,F4 h (nV p m r)]
inductive PR where
 | no
 | er (k:Int) (bad r:zf) (d:Nat) (l:Bool)
 | ok (e:Expr) (r:zf) (l:Bool)
def PR.bind:PR->(Expr->zf->Bool->PR)->PR
 | .no,_=>.no
 | .er k b r d l,_=>.er k b r d l
 | .ok e r l,f=>f e r l
def lN(k:Int)(l:List Expr):Expr:=.mk k zK [] l
def lF(t:zf):Rat:=match oF t with | some (n,d)=>jz (List.isPrefixOf [45] t) n d | none=>zK
def te(z:Rat)(t r:zf)(l:Bool):PR:=if 400<t.length then .ok (.mk 1 z [] []) r true else .ok (.mk 1 (lF t) [] []) r l
def tB(z:Rat)(d:Nat)(r:zf)(l:Bool):PR:=match r.dropWhile uN with
 | []=>te z (r.takeWhile uN) [] l
 | c::q=>if c=46 then(if q.takeWhile uN=[]then .er 2 q q d l else te z (r.takeWhile uN++(46::q.takeWhile uN)) (q.dropWhile uN) l)
  else te z (r.takeWhile uN) (c::q) l
def KI(r:zf)(l:Bool):PR:=.ok (.mk 2 zK (yc je 24 r).1 []) (yc je 24 r).2 l
def jO(K:Bool->zf->PR)(m1 m2:UInt8)(k1 k2:Int):Nat->Expr->zf->Bool->PR
 | 0,_,_,_=>.no
 | n+1,e,r,l=>match uY [m1,m2] r with
  | none=>.ok e (eI r) l
  | some (c,q)=>(K l q).bind λe2 q2 l2=>jO K m1 m2 k1 k2 n (lN (if c=m1 then k1 else k2) [e,e2]) q2 l2
def rowP(K:Bool->zf->PR)(m1 m2:UInt8)(k1 k2:Int)(n:Nat)(l:Bool)(r:zf):PR:=(K l r).bind λe q l'=>jO K m1 m2 k1 k2 n e q l'
def n9(z:Rat)(F S:Nat->Bool->zf->PR)(d:Nat)(l:Bool)(s:zf):PR:=match eI s with
 | []=>.er 2 [] [] d l
 | c::r =>
  if c=45 then(if 31<=d then .er 4 (c::r) r (d+1) l else(F (d+1) l r).bind λe q l'=>.ok (lN 7 [e]) q l')
  else if c=40 then(if 31<=d then .er 4 (c::r) r (d+1) l else(S (d+1) l r).bind λe q l'=>match uY [41] q with
   | some (_,q')=>.ok e q' l'
   | none=>.er 2 (eI q) (eI q) (d+1) l')
  else if uN c=true then tB z d (c::r) l
  else if Q5 c=true then KI (c::r) l
  else .er 2 (c::r) (c::r) d l
mutual
def pF(z:Rat):Nat->Nat->Bool->zf->PR
 | 0,_,_,_=>.no
 | n+1,d,l,s=>n9 z (pF z n) (pS z n) d l s
def pP(z:Rat):Nat->Nat->Bool->zf->PR
 | 0,_,_,_=>.no
 | n+1,d,l,s=>rowP (pF z n d) 42 47 5 6 n l s
def pS(z:Rat):Nat->Nat->Bool->zf->PR
 | 0,_,_,_=>.no
 | n+1,d,l,s=>rowP (pP z n d) 43 45 3 4 n l s
end
def PR.XL(s:zf):PR->Prop
 | .no=>True
 | .er _ b r _ _=>b <:+ s/\r <:+ s
 | .ok _ r _=>r <:+ s
theorem PR.nf{s:zf}{R:PR}{f:Expr->zf->Bool->PR}(h:R.XL s)(hf:∀ e r l,r <:+ s->(f e r l).XL s):(R.bind f).XL s:=by
 cases R with
 | no=>trivial
 | er=>exact h
 | ok e r l=>exact hf e r l h
theorem cL{m r q:zf}{c:UInt8}(h:uY m r=some (c,q)):(c::q) <:+ r/\m.contains c=true/\eI r=c::q:=by
 have:=gB r
 unfold uY at h
 split at h
 ·cases h
 ·rename_i c' q' e
  split at h
  ·cases h; rw[e]at this; exact⟨this,by assumption,e⟩
  ·cases h
theorem ZQ{s r t:zf}{z:Rat}{l:Bool}(h:r <:+ s):(te z t r l).XL s:=by unfold te; split<;>exact h
theorem cF(p:UInt8->Bool)(r:zf):r.dropWhile p <:+ r:=List.dropWhile_suffix p
theorem FU{s r:zf}{z:Rat}{d:Nat}{l:Bool}(h:r <:+ s):(tB z d r l).XL s:=by
 have hd:=cF uN r
 unfold tB
 split
 ·exact ZQ List.nil_suffix
 ·rename_i c q e
  rw[e]at hd
  have hq:=(kU hd).trans h
  split
  ·split
   ·exact⟨hq,hq⟩
   ·exact ZQ ((cF uN q).trans hq)
  ·exact ZQ (hd.trans h)
theorem J7{s:zf}{K:Bool->zf->PR}(hK:∀ l r,r <:+ s->(K l r).XL s)(m1 m2:UInt8)(k1 k2:Int):∀ (n:Nat) (e:Expr) (r:zf) (l:Bool),r <:+ s->(jO K m1 m2 k1 k2 n e r l).XL s
 | 0,_,_,_,_=>trivial
 | n+1,e,r,l,h=>by
  unfold jO
  split
  ·exact(gB r).trans h
  ·rename_i c q ht
   have hq:=(kU (cL ht).1).trans h
   exact PR.nf (hK l q hq) λe2 q2 l2 h2=>J7 hK m1 m2 k1 k2 n _ q2 l2 h2
theorem VP{s:zf}{K:Bool->zf->PR}(hK:∀ l r,r <:+ s->(K l r).XL s)(m1 m2:UInt8)(k1 k2:Int)(n:Nat)(l:Bool)(r:zf)(h:r <:+ s):(rowP K m1 m2 k1 k2 n l r).XL s :=
 PR.nf (hK l r h) λ_ _ _ h2=>J7 hK m1 m2 k1 k2 n _ _ _ h2
theorem DG{s:zf}{z:Rat}{F S:Nat->Bool->zf->PR}(hF:∀ d l r,r <:+ s->(F d l r).XL s)(hS:∀ d l r,r <:+ s->(S d l r).XL s)(d:Nat)(l:Bool)(r:zf)(h:r <:+ s):(n9 z F S d l r).XL s:=by
 have hk:=(gB r).trans h
 unfold n9
 split
 ·exact⟨List.nil_suffix,List.nil_suffix⟩
 ·rename_i c q e
  rw[e]at hk
  have hq:=kU hk
  split
  ·split
   ·exact⟨hk,hq⟩
   ·exact PR.nf (hF _ _ _ hq) λ_ _ _ h2=>h2
  ·split
   ·split
    ·exact⟨hk,hq⟩
    ·refine PR.nf (hS _ _ _ hq) λe2 q2 l2 h2 => ?_
     split
     ·rename_i ht
      exact(kU (cL ht).1).trans h2
     ·exact⟨(gB q2).trans h2,(gB q2).trans h2⟩
   ·split
    ·exact FU hk
    ·split
     ·exact(tR je 24 (c::q)).trans hk
     ·exact⟨hk,hk⟩
theorem ZC(z:Rat)(s:zf):∀ (n:Nat),(∀ d l r,r <:+ s->(pF z n d l r).XL s)/\(∀ d l r,r <:+ s->(pP z n d l r).XL s)/\(∀ d l r,r <:+ s->(pS z n d l r).XL s)
 | 0=>⟨λ_ _ _ _=>by unfold pF; trivial,λ_ _ _ _=>by unfold pP; trivial,λ_ _ _ _=>by unfold pS; trivial⟩
 | n+1=>by
  obtain⟨h1,h2,h3⟩:=ZC z s n
  refine⟨λd l r h => ?_,λd l r h => ?_,λd l r h => ?_⟩
  ·unfold pF; exact DG h1 h3 d l r h
  ·unfold pP; exact VP (h1 d) _ _ _ _ n l r h
  ·unfold pS; exact VP (h2 d) _ _ _ _ n l r h
def encR(s:zf)(d:Nat):PR->Option ((AM.Expr×z8)⊕(vk×z8))
 | .no=>none
 | .er k b r d' l=>some (.inr ((k,(((wS s b:Nat):Int),())),qi s r d' l))
 | .ok e r l=>some (.inl (e,qi s r d l))
theorem VR(e a:Int)(p:z8):(xn e a p).run=some (.inr ((e,(a,())),p)):=rfl
theorem KH(s:zf)(hs:s.length<=1000000){c:UInt8}{r:zf}(h:(c::r) <:+ s)(d:Nat)(hd:d<=31)(l:Bool):(wj (qi s r d l)).run=some (if 31<=d then .inr ((4,(((wS s (c::r):Nat):Int),())),qi s r (d+1) l)else .inl (qi s r (d+1) l)):=by
 have hp:=kf h
 have e:((qi s r d l).1,((qi s r d l).2.1,((zZ ((qi s r d l).2.2.1+(1:Int))),((qi s r d l).2.2.2.1,()))))=qi s r (d+1) l:=by
  rw[tD,zI (by omega) (by omega)]; rfl
 unfold wj
 rw[e,tD,vg,zI (by omega) (by omega),zI (by omega) (by omega)]
 by_cases c1:31<=d
 ·rw[if_pos c1,zc (decide_eq_true (by omega)),z6 (VR _ _ _),Sum.elim_inr,z7,show((wS s r:Nat):Int)-1=((wS s (c::r):Nat):Int) by omega]
 ·rw[if_neg c1,za (decide_eq_false (by omega)),z7]
theorem mW(p:UInt8->Bool)(r:zf):r.takeWhile p++r.dropWhile p=r:=List.takeWhile_append_dropWhile
theorem Ym(s:zf)(hs:s.length<=1000000)(d:Nat)(l:Bool)(r:zf)(h:r <:+ s):(vu (qi s r d l)).run=encR s d (tB zK d r l):=by
 have Rv:=cF uN r
 have hl:=h.length_le
 have hw:=pe s hs d l (λz0=>xk z0) uN oP s.length hs r h
 rw[Zm uN s.length r hl]at hw
 -- what is done with the text
 have fin:∀ (t q:zf),(T.ite (decide ((400:Int)<(Nat.cast (List.length t):Int)))
    (.ret (.inl ((Expr.mk (1:Int) (false,(([]:List Int),(([]:List Int),()))) ([]:zf) ([]:List AM.Expr)),((qi s q d l).1,((qi s q d l).2.1,((qi s q d l).2.2.1,(true,())))))))
    (T.bind (kh t) λ(r,r1) =>
     .ret (.inl ((Expr.mk (1:Int) (r.1,(r.2.1,(r.2.2.1,()))) ([]:zf) ([]:List AM.Expr)),(qi s q d l)))):T ((AM.Expr×z8)⊕(vk×z8))).run=encR s d (te zK t q l):=by
  intro t q
  unfold te
  by_cases c1:400<t.length
  ·rw[if_pos c1,zc (decide_eq_true (by omega)),z7]; rfl
  ·rw[if_neg c1,za (decide_eq_false (by omega)),z6 (lM t (by omega)),if_neg c1]
   unfold lF
   cases oF t with
   | none=>rfl
   | some x=>rfl
 unfold vu tB
 rw[wv,z6 hw]
 dsimp only
 cases e:r.dropWhile uN with
 | nil =>
  rw[e]at Rv
  rw[z6 (a:=.inl (r.takeWhile uN,qi s [] d l,Expr.mk 0 (false,([],([],()))) [] [])) (by rw[vg,wv,Zh,zd (λh=>by cases h),Bool.false_and,zh,z7]),Sum.elim_inl]
  exact fin _ _
 | cons c q =>
  rw[e]at Rv
  have Lj:=Rv.trans h
  have hq:=kU Lj
  have oa:=kf Lj
  dsimp only
  by_cases hc:c=46
  ·rw[if_pos hc]
   have nz:=pe s hs d l (λz0=>xk z0) uN oP s.length hs q hq
   rw[Zm uN s.length q hq.length_le]at nz
   have z7s:(r.takeWhile uN).length<=1000000:=by have:=congrArg List.length (mW uN r); rw[List.length_append]at this; omega
   have Py:(q.takeWhile uN).length<=1000000:=by have:=congrArg List.length (mW uN q); rw[List.length_append]at this; have:=hq.length_le; omega
   have cond:((decide (((wS s (c::q):Nat):Int)<(s.length:Int)))&&((qz s ((wS s (c::q):Nat):Int))==(46:Int)))=true:=by
    rw[nn Lj,Bool.true_and,yR Lj,show((c.toNat:Int)==46)=decide (c=46)from Nw c 46]; simpa using hc
   have st:(((qi s (c::q) d l).1,((zZ ((qi s (c::q) d l).2.1+(1:Int))),((qi s (c::q) d l).2.2.1,((qi s (c::q) d l).2.2.2.1,())))):z8)=qi s q d l:=tT d l Lj hs
   by_cases hq0:q.takeWhile uN=[]
   ·rw[if_pos hq0,z6 (a:=.inr ((2,(((wS s q:Nat):Int),())),qi s q d l,Expr.mk 0 (false,([],([],()))) [] [])),Sum.elim_inr]
    ·rfl
    ·rw[st,vg,wv,zd (λ_=>dx Lj),zc cond,z6 nz,zc (by rw[wu]; simpa using hq0)]
     have:q.dropWhile uN=q:=by have:=mW uN q; rw[hq0]at this; simpa using this
     rw[this,z6 (VR _ _ _),Sum.elim_inr,z7,vg]
   ·rw[if_neg hq0,z6 (a:=.inl (cat (r.takeWhile uN) (cat [46] (q.takeWhile uN)),qi s (q.dropWhile uN) d l,Expr.mk 0 (false,([],([],()))) [] [])),Sum.elim_inl]
    ·exact fin _ _
    ·rw[st,vg,wv,zd (λ_=>dx Lj),zc cond,z6 nz,za (by rw[wu]; simpa using hq0),zP _ (by simp; omega),zP _ (by simp[fJ]; omega),z7]
  ·rw[if_neg hc,z6 (a:=.inl (r.takeWhile uN,qi s (c::q) d l,Expr.mk 0 (false,([],([],()))) [] [])),Sum.elim_inl]
   ·exact fin _ _
   ·rw[vg,wv,zd (λ_=>dx Lj),za (by rw[nn Lj,Bool.true_and,yR Lj,show((c.toNat:Int)==46)=decide (c=46)from Nw c 46]; simpa using hc),z7]
abbrev KT:=z8->T ((AM.Expr×z8)⊕(vk×z8))
abbrev zE:Expr:=Expr.mk (0:Int) (false,(([]:List Int),(([]:List Int),()))) ([]:zf) ([]:List AM.Expr)
noncomputable def tI (K:KT) (oG:zf) (ZT:vk):(z8×AM.Expr×AM.Expr)->T ((z8×AM.Expr×AM.Expr)⊕((z8×AM.Expr×AM.Expr)⊕(vk×z8×AM.Expr×AM.Expr)))
 | (v,v1,v2) =>
  T.bind (qF oG v) λ(c,p3) =>
  .ite (c==(0:Int))
   (.ret (.inr (.inl (p3,(v2,v2)))))
   (T.bind (K p3) <|
     Sum.elim (λ(r1,p4) =>
      T.bind (strings_IndexByte oG c) λr2 =>
      .zC (qO r2 (2:Nat)) <|
      .ret (.inl (p4,(v1,(Expr.mk (fO (.int .i64) rJ ZT (Int.toNat r2)) (false,(([]:List Int),(([]:List Int),()))) ([]:zf) ([v2,r1]:List AM.Expr))))))
     (λ(pv1,p5) =>
      .ret (.inr (.inr (pv1,(p5,(v1,v2)))))))
noncomputable def NS (K:KT) (marks:zf) (kinds:vk) (p:z8):T ((AM.Expr×z8)⊕(vk×z8)) :=
 T.bind (K p) <|
  Sum.elim (λ(r,p1) =>
   T.bind (T.loop (tI K marks kinds) (p1,(zE,r))) <|
    Sum.elim (λ(v3,v4,v5) =>
     .ret (.inl (v4,v3)))
    (λ(p6,v6,v7,v8) =>
     .ret (.inr (p6,v6))))
  (λ(pv,p2) =>
   .ret (.inr (pv,p2)))
theorem z6D{m1 m2 c:UInt8}(h:[m1,m2].contains c=true):eK [m1,m2] c=if c=m1 then 0 else 1:=by
 unfold eK
 by_cases h1:c=m1
 ·subst h1; simp
 ·have rX:(m1==c)=false:=by simpa using λe:m1=c=>h1 e.symm
  have h2:c=m2:=by simpa[h1]using h
  subst h2
  rw[rX,if_neg h1]
  unfold eK
  simp
theorem Jc(s:zf)(hs:s.length<=1000000)(d:Nat)(K:KT)(Ks:Bool->zf->PR)(hK:∀ l r,r <:+ s->Ks l r≠.no->(K (qi s r d l)).run=encR s d (Ks l r))(hx:∀ l r,r <:+ s->(Ks l r).XL s)(m1 m2:UInt8)(hm1:m1≠0)(Dh:m2≠0)(k1 k2:Int) :
  ∀ (n:Nat) (e:Expr) (r:zf) (l:Bool),r <:+ s->jO Ks m1 m2 k1 k2 n e r l≠.no ->
   match jO Ks m1 m2 k1 k2 n e r l with
   | .no=>True
   | .ok e' r' l'=>(T.loop (tI K [m1,m2] (k1,(k2,()))) (qi s r d l,(zE,e))).run=some (.inl (qi s r' d l',(e',e')))
   | .er k b r' d' l'=>∃ x,(T.loop (tI K [m1,m2] (k1,(k2,()))) (qi s r d l,(zE,e))).run=some (.inr ((k,(((wS s b:Nat):Int),())),(qi s r' d' l',(zE,x))))
 | 0,_,_,_,_,hn=>absurd rfl hn
 | n+1,e,r,l,h,hn=>by
  have ht:=mJ s hs d l r h [m1,m2]
  unfold jO at hn ⊢
  cases q:uY [m1,m2] r with
  | none =>
   rw[q]at ht
   dsimp only
   refine xw ?_
   unfold tI
   dsimp only
   rw[z6 ht]
   rfl
  | some x =>
   obtain⟨c,q'⟩:=x
   rw[q]at ht hn
   dsimp only at ht hn ⊢
   have SG:=cL q
   have hq:=(kU SG.1).trans h
   have NP:((c.toNat:Int)==0)=false:=by
    rw[show((c.toNat:Int)==0)=decide (c=0)from Nw c 0]
    have h2:c=m1\/c=m2:=by simpa using SG.2.1
    rcases h2 with rfl | rfl<;>simpa
   have YU:=hK l q' hq
   have JA:=hx l q' hq
   cases z:Ks l q' with
   | no=>rw[z]at hn; exact absurd rfl hn
   | er k b r' d' l' =>
    rw[z]at YU
    have YU:=YU (by simp)
    refine⟨e,xw ?_⟩
    unfold tI
    dsimp only
    rw[z6 ht]
    dsimp only
    rw[za NP,z6 YU]
    rfl
   | ok e2 r2 l2 =>
    rw[z]at YU hn JA
    have YU:=YU (by simp)
    have hi:(strings_IndexByte [m1,m2] (c.toNat:Int)).run=some (eK [m1,m2] c):=by unfold strings_IndexByte; rw[z7,Zf]
    have step:(tI K [m1,m2] (k1,(k2,())) (qi s r d l,(zE,e))).run=some (.inl (qi s r2 d l2,(zE,lN (if c=m1 then k1 else k2) [e,e2]))):=by
     unfold tI
     dsimp only
     rw[z6 ht]
     dsimp only
     rw[za NP,z6 YU,Sum.elim_inl,z6 hi,z6D SG.2.1]
     by_cases hc:c=m1
     ·rw[if_pos hc,if_pos hc,zd ⟨by omega,by omega⟩,z7]
      rfl
     ·rw[if_neg hc,if_neg hc,zd ⟨by omega,by omega⟩,z7]
      rfl
    rw[j6 step]
    exact Jc s hs d K Ks hK hx m1 m2 hm1 Dh k1 k2 n _ r2 l2 JA hn
theorem JT(s:zf)(hs:s.length<=1000000)(d:Nat)(K:KT)(Ks:Bool->zf->PR)(hK:∀ l r,r <:+ s->Ks l r≠.no->(K (qi s r d l)).run=encR s d (Ks l r))(hx:∀ l r,r <:+ s->(Ks l r).XL s)(m1 m2:UInt8)(hm1:m1≠0)(Dh:m2≠0)(k1 k2:Int)
  (n:Nat) (l:Bool) (r:zf) (h:r <:+ s) (hn:rowP Ks m1 m2 k1 k2 n l r≠.no):(NS K [m1,m2] (k1,(k2,())) (qi s r d l)).run=encR s d (rowP Ks m1 m2 k1 k2 n l r):=by
 have YU:=hK l r h
 have JA:=hx l r h
 unfold NS
 unfold rowP at hn ⊢
 cases z:Ks l r with
 | no=>rw[z]at hn; exact absurd rfl hn
 | er k b r' d' l' =>
  rw[z]at YU
  rw[z6 (YU (by simp))]
  rfl
 | ok e r' l' =>
  rw[z]at YU hn JA
  have YU:=YU (by simp)
  have hn:jO Ks m1 m2 k1 k2 n e r' l'≠.no:=hn
  have hl:=Jc s hs d K Ks hK hx m1 m2 hm1 Dh k1 k2 n e r' l' JA hn
  rw[z6 YU,Sum.elim_inl]
  show _=encR s d (jO Ks m1 m2 k1 k2 n e r' l')
  cases w:jO Ks m1 m2 k1 k2 n e r' l' with
  | no=>exact absurd w hn
  | er k b r2 d2 l2 =>
   rw[w]at hl
   obtain⟨x,hl⟩:=hl
   dsimp only
   rw[z6 hl]
   rfl
  | ok e2 r2 l2 =>
   rw[w]at hl
   dsimp only at hl ⊢
   rw[z6 hl]
   rfl
theorem VT(s:zf)(hs:s.length<=1000000)(FT ST:KT)(F S:Nat->Bool->zf->PR)
  (hF:∀ d l r,d<=31->r <:+ s->F d l r≠.no->(FT (qi s r d l)).run=encR s d (F d l r)) (hS:∀ d l r,d<=31->r <:+ s->S d l r≠.no->(ST (qi s r d l)).run=encR s d (S d l r))
  (xS:∀ d l r,r <:+ s->(S d l r).XL s) (d:Nat) (l:Bool) (r:zf) (hd:d<=31) (h:r <:+ s) (hn:n9 zK F S d l r≠.no):(xC FT ST (qi s r d l)).run=encR s d (n9 zK F S d l r):=by
 have ht:=mJ s hs d l r h [45,40]
 have hk:=(gB r).trans h
 unfold xC
 unfold n9 at hn ⊢
 unfold uY at ht
 -- what deeper ones leave
 have down:∀ (q:zf) (l':Bool),(((qi s q (d+1) l').1,((qi s q (d+1) l').2.1,((zZ ((qi s q (d+1) l').2.2.1-(1:Int))),((qi s q (d+1) l').2.2.2.1,())))):z8)=qi s q d l':=by
  intro q l'
  rw[tD,zI (by omega) (by omega)]
  show(s,(((wS s q:Nat):Int),(((d+1:Nat):Int)-1,(l',()))))=(s,(((wS s q:Nat):Int),((d:Int),(l',()))))
  rw[show((d+1:Nat):Int)-1=(d:Int) by omega]
 cases e:eI r with
 | nil =>
  rw[e]at ht
  dsimp only at ht ⊢
  rw[z6 ht]
  dsimp only
  rw[za (by rfl),za (by rfl)]
  rw[z6 (a:=(false,(qi s [] d l,zE))) (by rw[vg,wv,Zh,zh,z7])]
  dsimp only
  rw[zh,z6 (a:=(false,(qi s [] d l,zE))) (by rw[vg,wv,Zh,zh,z7])]
  rfl
 | cons c q =>
  rw[e]at ht hn hk
  have hq:=kU hk
  dsimp only at ht hn ⊢
  have hw:=KH s hs hk d hd l
  by_cases Lq:c=45
  ·subst Lq
   rw[if_pos (by decide)]at ht
   dsimp only at ht
   rw[if_pos rfl]at hn ⊢
   rw[z6 ht]
   dsimp only
   rw[zc (by rfl),z6 hw]
   by_cases c31:31<=d
   ·rw[if_pos c31,if_pos c31]; rfl
   ·rw[if_neg c31]at hn
    rw[if_neg c31,if_neg c31,Sum.elim_inl]
    have hf:=hF (d+1) l q (by omega) hq
    cases z:F (d+1) l q with
    | no=>rw[z]at hn; exact absurd rfl hn
    | er k b r' d' l'=>rw[z]at hf; rw[z6 (hf (by simp))]; rfl
    | ok e2 r2 l2 =>
     rw[z]at hf
     rw[z6 (hf (by simp)),Sum.elim_inl]
     dsimp only
     rw[z7,down]
     rfl
  ·rw[if_neg Lq]at hn ⊢
   by_cases Li:c=40
   ·subst Li
    rw[if_pos (by decide)]at ht
    dsimp only at ht
    rw[if_pos rfl]at hn ⊢
    rw[z6 ht]
    dsimp only
    rw[za (by rfl),zc (by rfl),z6 hw]
    by_cases c31:31<=d
    ·rw[if_pos c31,if_pos c31]; rfl
    ·rw[if_neg c31]at hn
     rw[if_neg c31,if_neg c31,Sum.elim_inl]
     have hf:=hS (d+1) l q (by omega) hq
     have xf:=xS (d+1) l q hq
     cases z:S (d+1) l q with
     | no=>rw[z]at hn; exact absurd rfl hn
     | er k b r' d' l'=>rw[z]at hf; rw[z6 (hf (by simp))]; rfl
     | ok e2 r2 l2 =>
      rw[z]at hf xf
      rw[z6 (hf (by simp)),Sum.elim_inl]
      dsimp only
      have Xg:=mJ s hs (d+1) l2 r2 xf [41]
      show _=encR s d (match uY [41] r2 with | some (_,q')=>.ok e2 q' l2 | none=>.er 2 (eI r2) (eI r2) (d+1) l2)
      cases w:uY [41] r2 with
      | none =>
       rw[w]at Xg
       dsimp only at Xg ⊢
       rw[z6 (a:=.inr ((2,(((wS s (eI r2):Nat):Int),())),(qi s (eI r2) (d+1) l2,(zE,e2)))) (by rw[z6 Xg]; rfl)]
       rfl
      | some x =>
       obtain⟨c',q'⟩:=x
       rw[w]at Xg
       have hc':=(cL w).2.1
       have hc':c'=41:=by simpa using hc'
       subst hc'
       dsimp only at Xg ⊢
       rw[z6 (a:=.inl (qi s q' (d+1) l2,(zE,e2))) (by rw[z6 Xg]; rfl),Sum.elim_inl]
       dsimp only
       rw[z7,down]
       rfl
   ·rw[if_neg (by simp[Lq,Li])]at ht
    dsimp only at ht
    rw[if_neg Li]at hn ⊢
    rw[z6 ht]
    dsimp only
    rw[za (by rfl),za (by rfl)]
    rw[z6 (a:=(uN c,(qi s (c::q) d l,zE))) (by rw[vg,wv,nn hk,zm,zd (dx hk),yR hk,z6 (oP c),z7])]
    dsimp only
    cases hD:uN c with
    | true =>
     rw[if_pos rfl,zm]
     have Js:=Ym s hs d l (c::q) hk
     cases z:tB zK d (c::q) l with
     | no =>
      exfalso
      rw[if_pos hD,z]at hn
      exact hn rfl
     | er k b r' d' l'=>rw[z]at Js; rw[z6 Js]; rfl
     | ok e2 r2 l2=>rw[z]at Js; rw[z6 Js]; rfl
    | false =>
     rw[if_neg (by simp),zh]
     rw[z6 (a:=(Q5 c,(qi s (c::q) d l,zE))) (by rw[vg,wv,nn hk,zm,zd (dx hk),yR hk,z6 (CV c),z7])]
     dsimp only
     cases hL:Q5 c with
     | true =>
      rw[if_pos rfl,zm]
      have hwl:(qG (λz0=>wI z0) 24 (qi s (c::q) d l)).run=_:=pe s hs d l (λz0=>wI z0) je eZ 24 (by omega) (c::q) hk
      rw[z6 hwl]
      rfl
     | false =>
      rw[if_neg (by simp),zh]
      rfl
mutual
def bE(deep:Nat)(left:Int):Expr->Bool×Int
 | .mk k n s l=>if left-1<0\/(decide (deep<32)&&jA (.mk k n s l))=false then(false,left-1)else ka (deep+1) (left-1) l
def ka(deep:Nat)(left:Int):List Expr->Bool×Int
 | []=>(true,left)
 | e::r=>if(bE deep left e).1=true then ka deep (bE deep left e).2 r else(false,(bE deep left e).2)
end
mutual
theorem WB:∀ (e:Expr) (d:Nat) (left:Int),0<=left->(bE d left e).1=(uy d e&&decide ((vR e:Int)<=left))/\((bE d left e).1=true->(bE d left e).2=left-vR e)/\(bE d left e).2<=left /\ -1<=(bE d left e).2
 | .mk k n s l,d,left,h=>by
  have e1:uy d (.mk k n s l)=((decide (d<32)&&jA (.mk k n s l))&&yT (d+1) l):=by unfold uy; rw[Bool.and_assoc]
  have e2:vR (.mk k n s l)=1+jB l:=rfl
  unfold bE
  rw[e1,e2]
  by_cases c:left-1<0
  ·rw[if_pos (.inl c)]
   refine⟨?_,λh=>by simp at h,by omega,by dsimp only; omega⟩
   dsimp only
   rw[show decide (((1+jB l:Nat):Int)<=left)=false from decide_eq_false (by omega),Bool.and_false]
  ·cases q:(decide (d<32)&&jA (.mk k n s l))with
   | false=>rw[if_pos (.inr rfl)]; exact⟨rfl,λh=>by simp at h,by dsimp only; omega,by dsimp only; omega⟩
   | true =>
    rw[if_neg (by rintro(h | h); exact c h; simp at h),Bool.true_and]
    obtain⟨h1,h2,h3,h4⟩:=Ue l (d+1) (left-1) (by omega)
    refine⟨?_,λh=>by rw[h2 h]; omega,by omega,by omega⟩
    rw[h1]
    congr 1
    exact decide_eq_decide.2 (by omega)
theorem Ue:∀ (l:List Expr) (d:Nat) (left:Int),0<=left->(ka d left l).1=(yT d l&&decide ((jB l:Int)<=left))/\((ka d left l).1=true->(ka d left l).2=left-jB l)/\(ka d left l).2<=left /\ -1<=(ka d left l).2
 | [],d,left,h=>by
  refine⟨?_,λ_ => ?_,Int.le_refl _,?_⟩
  ·show true=(true&&decide (((0:Nat):Int)<=left)); simp; omega
  ·show left=left-((0:Nat):Int); omega
  ·show -1<=left; omega
 | e::r,d,left,h=>by
  have e1:yT d (e::r)=(uy d e&&yT d r):=rfl
  have e2:jB (e::r)=vR e+jB r:=rfl
  obtain⟨h1,h2,h3,h4⟩:=WB e d left h
  unfold ka
  rw[e1,e2]
  cases q:(bE d left e).1 with
  | false =>
   rw[if_neg (by simp)]
   refine⟨?_,λh=>by simp at h,h3,h4⟩
   dsimp only
   rw[q]at h1
   cases ho:uy d e with
   | false=>rfl
   | true =>
    rw[ho,Bool.true_and]at h1
    have:=of_decide_eq_false h1.symm
    rw[show decide (((vR e+jB r:Nat):Int)<=left)=false from decide_eq_false (by omega),Bool.and_false]
  | true =>
   rw[if_pos rfl]
   have hq:=h2 q
   rw[q]at h1
   have h1:=h1.symm
   rw[Bool.and_eq_true,decide_eq_true_eq]at h1
   obtain⟨g1,g2,g3,g4⟩:=Ue r d (bE d left e).2 (by omega)
   refine⟨?_,λh=>by rw[g2 h]; omega,by omega,by omega⟩
   rw[g1,h1.1,Bool.true_and]
   congr 1
   exact decide_eq_decide.2 (by omega)
end
theorem YI(e:Expr)(deep:Nat)(left:Int)(h:allOk e)(hl:vR e<=1000000)(hl0:0<=left)(dF:left<=100000)(hd:deep<=32):(uL e (deep:Int) left).run=some (bE deep left e):=by
 unfold uL
 refine V4 (λx:Expr×Int×Int=>allOk x.1/\0<=x.2.1/\x.2.1<=32/\vR x.1<=1000000/\0<=x.2.2/\x.2.2<=100000) (λx=>vR x.1) (λx=>bE x.2.1.toNat x.2.2 x.1) (λx hx g hg => ?_) (x:=(e,(deep:Int),left)) ⟨h,by dsimp only; omega,by dsimp only; omega,by dsimp only; omega,by dsimp only; omega,by dsimp only; omega⟩
 obtain⟨e,d,L⟩:=x
 obtain⟨ha,L1,C8,hn,z3T,hlf⟩:=hx
 dsimp only at ha L1 C8 hn z3T hlf
 obtain⟨D,rfl⟩:∃ D:Nat,d=(D:Int):=⟨d.toNat,by omega⟩
 cases e with | mk k n s kids =>
 obtain⟨Js,IV⟩:=ha
 have NY:vR (.mk k n s kids)=1+jB kids:=by unfold vR; rfl
 rw[NY]at hn
 have ew:zZ (L-1)=L-1:=zI (by omega) (by omega)
 have Dz:=ZY (.mk k n s kids) Js
 simp only[Int.toNat_natCast]
 unfold kT
 rw[ew]
 have head:((.ite (decide ((L-1)<(0:Int))) (.ret (true,L-1)) (.ite (decide ((32:Int)<=(D:Int))) (.ret (true,L-1)) (T.bind (kb (.mk k n s kids)) λr=>.ret ((!r),L-1)))):T (Bool×Int)).run =
   some (decide (L-1<0\/(decide (D<32)&&jA (.mk k n s kids))=false),L-1):=by
  by_cases c0:L-1<0
  ·rw[zc (decide_eq_true c0),z7,decide_eq_true (.inl c0)]
  ·rw[za (decide_eq_false c0)]
   by_cases c:D<32
   ·rw[za (decide_eq_false (by omega)),z6 Dz,z7,decide_eq_true c,Bool.true_and]
    cases jA (.mk k n s kids)<;>simp[c0]
   ·rw[zc (decide_eq_true (by omega)),z7,decide_eq_false c,Bool.false_and]
    simp
 rw[z6 head]
 dsimp only
 unfold bE
 by_cases q:L-1<0\/(decide (D<32)&&jA (.mk k n s kids))=false
 ·rw[zc (decide_eq_true q),z7,if_pos q]
 ·rw[za (decide_eq_false q),if_neg q]
  have q1:¬ L-1<0:=λh=>q (.inl h)
  have hD:D<32:=by
   by_cases c:D<32
   ·exact c
   ·exact absurd (.inr (by rw[decide_eq_false c]; rfl)) q
  have ed:zZ ((D:Int)+1)=((D+1:Nat):Int):=by rw[zI (by omega) (by omega)]; omega
  have loop:∃ z,(zA (λy0 y1 y2=>g (y0,y1,y2)) kids (kids.length:Int) (((D:Int),()),((0:Int),L-1))).run=some z /\
    (((ka (D+1) (L-1) kids).1=true/\z=.inl (ka (D+1) (L-1) kids).2)\/((ka (D+1) (L-1) kids).1=false/\∃ i:Int,0<=i/\z=.inr (i,(ka (D+1) (L-1) kids).2))):=by
   refine T.xW (r:=zo (λy0 y1 y2=>g (y0,y1,y2)) kids (kids.length:Int)) (λst:(Int×Unit)×Int×Int=>∃ (j:Nat) (B:Int),st=(((D:Int),()),(j:Int),B)/\j<=kids.length/\0<=B/\B<=100000 /\
    ka (D+1) B (kids.drop j)=ka (D+1) (L-1) kids) (λst=>kids.length-st.2.1.toNat) _ (λst xm => ?_) ⟨0,L-1,rfl,by omega,by omega,by omega,by rw[List.drop_zero]⟩
   obtain⟨j,B,rfl,hj,hB0,hB,WY⟩:=xm
   by_cases c:j<kids.length
   ·have Rv:kids.drop j=kids[j]::kids.drop (j+1):=List.drop_eq_getElem_cons c
    rw[Rv]at WY
    rw[show ka (D+1) B (kids[j]::kids.drop (j+1))=if(bE (D+1) B kids[j]).1=true then ka (D+1) (bE (D+1) B kids[j]).2 (kids.drop (j+1))else(false,(bE (D+1) B kids[j]).2)from rfl]at WY
    have o9:=ZB IV _ (List.getElem_mem c)
    have Br:=WB kids[j] (D+1) B hB0
    have RZ:vR kids[j]<1+jB kids:=by have:=tw (List.getElem_mem c); omega
    have Q6:=hg (kids[j],((D+1:Nat):Int),B) ⟨o9,by dsimp only; omega,by dsimp only; omega,by dsimp only; omega,by dsimp only; omega,by dsimp only; omega⟩ (by dsimp only; rw[NY]; exact RZ)
    dsimp only at Q6
    simp only[Int.toNat_natCast]at Q6
    have hf:(ui (λy0 y1 y2=>g (y0,y1,y2)) kids[j] (D:Int) B).run=some (!(bE (D+1) B kids[j]).1,(bE (D+1) B kids[j]).2):=by
     unfold ui
     rw[ed,z6 Q6]; rfl
    unfold zo
    dsimp only
    rw[zc (ma c),zd (vC c),oR c,z6 hf]
    dsimp only
    cases hk:(bE (D+1) B kids[j]).1 with
    | true =>
     left
     rw[hk,if_pos rfl]at WY
     rw[za (by rfl),z7]
     have hlen:=tz kids
     rw[K5 j _ c (by omega)]
     have hb:=Br.1
     rw[hk]at hb
     have hb:=hb.symm
     rw[Bool.and_eq_true,decide_eq_true_eq]at hb
     have h2:=Br.2.1 hk
     refine⟨_,rfl,⟨j+1,(bE (D+1) B kids[j]).2,rfl,c,by omega,by omega,WY⟩,?_⟩
     simp only[Int.toNat_natCast]
     omega
    | false =>
     right
     rw[hk,if_neg (by simp)]at WY
     rw[zc (by rfl),z7]
     exact⟨_,rfl,.inr ⟨by rw[<- WY],(j:Int),by omega,by rw[<- WY]⟩⟩
   ·right
    have hj2:j=kids.length:=by omega
    subst hj2
    rw[List.drop_length]at WY
    unfold zo
    dsimp only
    rw[za (pE _),z7]
    exact⟨_,rfl,.inl ⟨by rw[<- WY]; rfl,by rw[<- WY]; rfl⟩⟩
  obtain⟨z,hz,hc⟩:=loop
  have hcf:(zD (λy0 y1 y2=>g (y0,y1,y2)) kids ((D:Int),()) (L-1)).run=some (!(ka (D+1) (L-1) kids).1,(ka (D+1) (L-1) kids).2):=by
   unfold zD qk
   rcases hc with⟨ho,rfl⟩ | ⟨ho,i,hi,rfl⟩
   ·have:((T.bind (zA (λy0 y1 y2=>g (y0,y1,y2)) kids (kids.length:Int) (((D:Int),()),((0:Int),L-1)))<|Sum.elim (λv2=>.ret ((-1:Int),v2)) (λ(x2,v3)=>.ret (x2,v3))):T (Int×Int)).run=some (-1,(ka (D+1) (L-1) kids).2):=by
     rw[z6 hz]; rfl
    rw[z6 this,ho]; rfl
   ·have:((T.bind (zA (λy0 y1 y2=>g (y0,y1,y2)) kids (kids.length:Int) (((D:Int),()),((0:Int),L-1)))<|Sum.elim (λv2=>.ret ((-1:Int),v2)) (λ(x2,v3)=>.ret (x2,v3))):T (Int×Int)).run=some (i,(ka (D+1) (L-1) kids).2):=by
     rw[z6 hz]; rfl
    rw[z6 this,ho,z7,decide_eq_true hi]; rfl
  rw[show Expr.kids (.mk k n s kids)=kids from rfl,z6 hcf]
  dsimp only
  rw[z7,Bool.not_not]
def Y5(e:Expr):Bool:=uy 0 e&&decide (vR e<=256)
theorem Cc(e:Expr)(h:allOk e)(hn:vR e<=1000000):(vI e).run=some (Y5 e):=by
 unfold vI Y5
 have:=YI e 0 256 h hn (by omega) (by omega) (by omega)
 have this:(uL e 0 256).run=some (bE 0 256 e):=this
 rw[z6 this,z7,(WB e 0 256 (by omega)).1]
 congr 2
 exact decide_eq_decide.2 (by omega)
def jQ(e:Expr):Prop:=allOk e/\bkE e<=300*vR e
def PR.cf(N:Nat):PR->Prop
 | .ok e r _=>jQ e/\vR e+r.length<=N
 | _=>True
theorem WH(e:Expr):1<=vR e:=by cases e; unfold vR; omega
theorem jc:yh zK:=⟨iZ,iZ,by show(0:Nat)<=100; omega,by show(0:Nat)<=100; omega⟩
theorem iS(k:Int)(n:Rat)(s:zf)(hn:yh n)(hs:s.length<=24):jQ (.mk k n s []):=by
 refine⟨⟨hn,trivial⟩,?_⟩
 have h3:=hn.2.2.1
 have h4:=hn.2.2.2
 show 1+((1+((List.length n.2.1+1)+((List.length n.2.2.1+1)+1)))+((List.length s+1)+((0+1)+1)))<=300*(1+0)
 omega
theorem YN(k:Int){a:Expr}(h:jQ a):jQ (lN k [a]):=by
 refine⟨⟨jc,h.1,trivial⟩,?_⟩
 show 1+((1+((0+1)+((0+1)+1)))+((0+1)+(((bkE a+0)+1)+1)))<=300*(1+(vR a+0))
 have:=h.2
 omega
theorem Kj(k:Int){a b:Expr}(h:jQ a)(h2:jQ b):jQ (lN k [a,b]):=by
 refine⟨⟨jc,h.1,h2.1,trivial⟩,?_⟩
 show 1+((1+((0+1)+((0+1)+1)))+((0+1)+(((bkE a+(bkE b+0))+1)+1)))<=300*(1+(vR a+(vR b+0)))
 have:=h.2
 have:=h2.2
 omega
theorem nd1(k:Int)(a:Expr):vR (lN k [a])=1+vR a:=rfl
theorem nd2(k:Int)(a b:Expr):vR (lN k [a,b])=1+(vR a+vR b):=rfl
theorem PR.lv{N:Nat}{R:PR}{f:Expr->zf->Bool->PR}{M:Nat}(h:R.cf M)(hf:∀ e r l,jQ e->vR e+r.length<=M->(f e r l).cf N):(R.bind f).cf N:=by
 cases R with
 | no=>trivial
 | er=>trivial
 | ok e r l=>exact hf e r l h.1 h.2
theorem Oa(t:zf)(ht:t.length<=400):yh (lF t):=by
 unfold lF
 split
 ·rename_i n d h
  have:=pN (List.isPrefixOf [45] t) ht h
  exact⟨this.1,this.2.1,by have:=this.2.2.1; omega,by have:=this.2.2.2; omega⟩
 ·exact jc
theorem oO{z:Rat}(hz:yh z)(t r:zf)(l:Bool)(N:Nat)(h:r.length+1<=N):(te z t r l).cf N:=by
 unfold te
 split
 ·exact⟨iS 1 z [] hz (by simp),by show 1+0+r.length<=N; omega⟩
 ·exact⟨iS 1 _ [] (Oa t (by omega)) (by simp),by show 1+0+r.length<=N; omega⟩
theorem D6{z:Rat}(hz:yh z)(d:Nat)(c:UInt8)(r:zf)(l:Bool)(hc:uN c=true):(tB z d (c::r) l).cf (c::r).length:=by
 have hd:(c::r).dropWhile uN=r.dropWhile uN:=by rw[List.dropWhile_cons_of_pos hc]
 have hl:=(cF uN r).length_le
 unfold tB
 rw[hd]
 split
 ·exact oO hz _ _ _ _ (by simp)
 ·rename_i c' q e
  rw[e]at hl
  split
  ·split
   ·trivial
   ·have:=(cF uN q).length_le
    simp only[List.length_cons]at hl
    exact oO hz _ _ _ _ (by simp only[List.length_cons]; omega)
  ·exact oO hz _ _ _ _ (by simp only[List.length_cons]at hl ⊢; omega)
theorem J0(p:UInt8->Bool):∀ (n:Nat) (r:zf),(yc p n r).1.length<=n
 | 0,_=>by unfold yc; simp
 | _+1,[]=>by unfold yc; simp
 | n+1,c::r=>by
  have:=J0 p n r
  unfold yc
  split
  ·simp only[List.length_cons]; omega
  ·simp
theorem Yg{c:UInt8}(h:Q5 c=true):je c=true:=by unfold je; rw[h]; rfl
theorem D1(c:UInt8)(r:zf)(l:Bool)(hc:Q5 c=true):(KI (c::r) l).cf (c::r).length:=by
 have h1:=J0 je 24 (c::r)
 have h2:=congrArg List.length (nV je 24 (c::r))
 have h3:(yc je 24 (c::r)).1=c::(yc je 23 r).1:=by
  show(if je c=true then(c::(yc je 23 r).1,(yc je 23 r).2)else([],c::r)).1=_
  rw[if_pos (Yg hc)]
 rw[List.length_append,h3]at h2
 refine⟨iS 2 zK _ jc h1,?_⟩
 show 1+0+(yc je 24 (c::r)).2.length<=_
 simp only[List.length_cons]at h2 ⊢
 omega
theorem oN{m r q:zf}{c:UInt8}(h:uY m r=some (c,q)):q.length+1<=r.length:=by
 have:=(cL h).1.length_le
 simpa using this
theorem XD{K:Bool->zf->PR}(hK:∀ l q,(K l q).cf q.length)(m1 m2:UInt8)(k1 k2:Int):∀ (n:Nat) (e:Expr) (r:zf) (l:Bool) (N:Nat),jQ e->vR e+r.length<=N->(jO K m1 m2 k1 k2 n e r l).cf N
 | 0,_,_,_,_,_,_=>trivial
 | n+1,e,r,l,N,he,hN=>by
  unfold jO
  split
  ·exact⟨he,by have:=WS r; omega⟩
  ·rename_i c q ht
   have hq:=oN ht
   refine PR.lv (hK l q) λe2 q2 l2 h1 h2 => ?_
   refine XD hK m1 m2 k1 k2 n _ q2 l2 N (Kj _ he h1) ?_
   rw[nd2]
   omega
theorem Xj{K:Bool->zf->PR}(hK:∀ l q,(K l q).cf q.length)(m1 m2:UInt8)(k1 k2:Int)(n:Nat)(l:Bool)(r:zf):(rowP K m1 m2 k1 k2 n l r).cf r.length :=
 PR.lv (hK l r) λe q l' h1 h2=>XD hK m1 m2 k1 k2 n e q l' _ h1 h2
theorem BV{z:Rat}(hz:yh z){F S:Nat->Bool->zf->PR}(hF:∀ d l q,(F d l q).cf q.length)(hS:∀ d l q,(S d l q).cf q.length)(d:Nat)(l:Bool)(r:zf):(n9 z F S d l r).cf r.length:=by
 have hk:=WS r
 unfold n9
 split
 ·trivial
 ·rename_i c q e
  rw[e]at hk
  simp only[List.length_cons]at hk
  split
  ·split
   ·trivial
   ·refine PR.lv (hF _ _ _) λe2 r2 l2 h1 h2=>⟨YN 7 h1,?_⟩
    rw[nd1]; omega
  ·split
   ·split
    ·trivial
    ·refine PR.lv (hS _ _ _) λe2 r2 l2 h1 h2 => ?_
     split
     ·rename_i ht
      have:=oN ht
      exact⟨h1,by omega⟩
     ·trivial
   ·split
    ·rename_i hc
     have:=D6 hz d c q l hc
     cases w:tB z d (c::q) l with
     | no=>trivial
     | er=>trivial
     | ok e2 r2 l2=>rw[w]at this; exact⟨this.1,by have:=this.2; simp only[List.length_cons]at this; omega⟩
    ·split
     ·rename_i hc
      have:=D1 c q l hc
      exact⟨this.1,by have:=this.2; simp only[List.length_cons]at this; omega⟩
     ·trivial
theorem Wl{z:Rat}(hz:yh z):∀ (n:Nat),(∀ d l r,(pF z n d l r).cf r.length)/\(∀ d l r,(pP z n d l r).cf r.length)/\(∀ d l r,(pS z n d l r).cf r.length)
 | 0=>⟨λ_ _ _=>by unfold pF; trivial,λ_ _ _=>by unfold pP; trivial,λ_ _ _=>by unfold pS; trivial⟩
 | n+1=>by
  obtain⟨h1,h2,h3⟩:=Wl hz n
  refine⟨λd l r => ?_,λd l r => ?_,λd l r => ?_⟩
  ·unfold pF; exact BV hz h1 h3 d l r
  ·unfold pP; exact Xj (h1 d) _ _ _ _ n l r
  ·unfold pS; exact Xj (h2 d) _ _ _ _ n l r
theorem PR.sH{R:PR}{f:Expr->zf->Bool->PR}{M:Nat}(h:R≠.no)(hg:R.cf M)(hf:∀ e r l,jQ e->vR e+r.length<=M->f e r l≠.no):R.bind f≠.no:=by
 cases R with
 | no=>exact absurd rfl h
 | er=>intro h; cases h
 | ok e r l=>exact hf e r l hg.1 hg.2
theorem JU{K:Bool->zf->PR}(hK:∀ l q,(K l q).cf q.length)(m1 m2:UInt8)(k1 k2:Int):∀ (n:Nat) (e:Expr) (r:zf) (l:Bool),(∀ l q,q.length<=r.length->K l q≠.no)->r.length+1<=n->jO K m1 m2 k1 k2 n e r l≠.no
 | 0,_,_,_,_,h=>by omega
 | n+1,e,r,l,hT,h=>by
  unfold jO
  split
  ·intro h; cases h
  ·rename_i c q ht
   have hq:=oN ht
   refine PR.sH (hT l q (by omega)) (hK l q) λe2 q2 l2 h1 h2 => ?_
   have:=WH e2
   exact JU hK m1 m2 k1 k2 n _ q2 l2 (λl q3 h3=>hT l q3 (by omega)) (by omega)
theorem JO{K:Bool->zf->PR}(hK:∀ l q,(K l q).cf q.length)(m1 m2:UInt8)(k1 k2:Int)(n:Nat)(l:Bool)(r:zf)(hT:∀ l q,q.length<=r.length->K l q≠.no)(h:r.length<=n):rowP K m1 m2 k1 k2 n l r≠.no:=by
 refine PR.sH (hT l r (Nat.le_refl _)) (hK l r) λe q l' h1 h2 => ?_
 have:=WH e
 exact JU hK m1 m2 k1 k2 n e q l' (λl q3 h3=>hT l q3 (by omega)) (by omega)
theorem Ew(z:Rat)(d:Nat)(r:zf)(l:Bool):tB z d r l≠.no:=by
 have fin:∀ t q,te z t q l≠.no:=λt q=>by unfold te; split<;>(intro h; cases h)
 unfold tB
 split
 ·exact fin _ _
 ·split
  ·split
   ·intro h; cases h
   ·exact fin _ _
  ·exact fin _ _
theorem FK{z:Rat}(hz:yh z):∀ (n:Nat),(∀ d l r,3*r.length+1<=n->pF z n d l r≠.no)/\(∀ d l r,3*r.length+2<=n->pP z n d l r≠.no)/\(∀ d l r,3*r.length+3<=n->pS z n d l r≠.no)
 | 0=>⟨λ_ _ _ h=>by omega,λ_ _ _ h=>by omega,λ_ _ _ h=>by omega⟩
 | n+1=>by
  obtain⟨h1,h2,h3⟩:=FK hz n
  obtain⟨g1,g2,g3⟩:=Wl hz n
  refine⟨λd l r h => ?_,λd l r h => ?_,λd l r h => ?_⟩
  ·unfold pF
   have hk:=WS r
   unfold n9
   split
   ·intro h; cases h
   ·rename_i c q e
    rw[e]at hk
    simp only[List.length_cons]at hk
    split
    ·split
     ·intro h; cases h
     ·exact PR.sH (h1 _ _ _ (by omega)) (g1 _ _ _) λ_ _ _ _ _=>by intro h; cases h
    ·split
     ·split
      ·intro h; cases h
      ·refine PR.sH (h3 _ _ _ (by omega)) (g3 _ _ _) λ_ _ _ _ _ => ?_
       split<;>(intro h; cases h)
     ·split
      ·exact Ew z d _ l
      ·split<;>(intro h; cases h)
  ·unfold pP
   exact JO (g1 d) _ _ _ _ n l r (λl q hq=>h1 d l q (by omega)) (by omega)
  ·unfold pS
   exact JO (g2 d) _ _ _ _ n l r (λl q hq=>h2 d l q (by omega)) (by omega)
theorem YJ(s:zf)(hs:s.length<=1000000)(ST:KT)(N:Nat)(hS:∀ m,m<=N->∀ d l r,d<=31->r <:+ s->pS zK m d l r≠.no->(ST (qi s r d l)).run=encR s d (pS zK m d l r))
  (n:Nat) (hn:n<=N+1) (d:Nat) (l:Bool) (r:zf) (hd:d<=31) (h:r <:+ s) (ya:pF zK n d l r≠.no):(qX ST (qi s r d l)).run=encR s d (pF zK n d l r):=by
 unfold qX
 obtain⟨y,hy⟩:∃ y,encR s d (pF zK n d l r)=some y:=by
  cases q:pF zK n d l r with
  | no=>exact absurd q ya
  | er=>exact⟨_,rfl⟩
  | ok=>exact⟨_,rfl⟩
 rw[hy]
 refine T.GK (λn x y=>n<=N+1/\∃ d l r,d<=31/\r <:+ s/\x=qi s r d l/\pF zK n d l r≠.no/\encR s d (pF zK n d l r)=some y) (λx y => ?_) (λn x y hx g hg => ?_) (n:=n) ⟨hn,d,l,r,hd,h,rfl,ya,hy⟩
 ·rintro⟨_,d,l,r,_,_,_,h,_⟩
  exact h (by unfold pF; rfl)
 ·obtain⟨hn,d,l,r,hd,h,rfl,ya,hy⟩:=hx
  rw[<- hy]
  unfold pF at ya ⊢
  have hgF:∀ d l r,d<=31->r <:+ s->pF zK n d l r≠.no->(g (qi s r d l)).run=encR s d (pF zK n d l r):=by
   intro d l r hd h ya
   obtain⟨y,hy⟩:∃ y,encR s d (pF zK n d l r)=some y:=by
    cases q:pF zK n d l r with
    | no=>exact absurd q ya
    | er=>exact⟨_,rfl⟩
    | ok=>exact⟨_,rfl⟩
   rw[hy]
   exact hg _ _ ⟨by omega,d,l,r,hd,h,rfl,ya,hy⟩
  exact VT s hs (λy0=>g y0) ST (pF zK n) (pS zK n) hgF (hS n (by omega)) ((ZC zK s n).2.2) d l r hd h ya
theorem WD(ST:KT)(m:zf)(k:vk)(p:z8):xg ST () m k p=NS (qX ST) m k p:=rfl
theorem Qb(ST:KT)(m:zf)(k:vk)(p:z8):xa ST () m k p=NS (qH ST) m k p:=rfl
theorem JB{t:T ((AM.Expr×z8)⊕(vk×z8))}{o:Option ((AM.Expr×z8)⊕(vk×z8))}(h:t.run=o)(ho:o≠none):(T.bind t<|Sum.elim (λ(r,p1)=>.ret (.inl (r,p1))) (λ(pv,p2)=>.ret (.inr (pv,p2))):T ((AM.Expr×z8)⊕(vk×z8))).run=o:=by
 cases o with
 | none=>exact absurd rfl ho
 | some x=>rw[z6 h]; cases x<;>rfl
theorem JJ{s:zf}{d:Nat}{R:PR}(h:R≠.no):encR s d R≠none:=by
 cases R with
 | no=>exact absurd rfl h
 | er=>intro h; cases h
 | ok=>intro h; cases h
theorem Jm(s:zf)(hs:s.length<=1000000)(ST:KT)(N:Nat)(hS:∀ m,m<=N->∀ d l r,d<=31->r <:+ s->pS zK m d l r≠.no->(ST (qi s r d l)).run=encR s d (pS zK m d l r))
  (n:Nat) (hn:n<=N+1) (d:Nat) (l:Bool) (r:zf) (hd:d<=31) (h:r <:+ s) (ya:pP zK n d l r≠.no):(qH ST (qi s r d l)).run=encR s d (pP zK n d l r):=by
 cases n with
 | zero=>exact absurd (by unfold pP; rfl) ya
 | succ n =>
  unfold pP at ya ⊢
  unfold qH
  refine JB ?_ (JJ ya)
  rw[WD]
  exact JT s hs d (qX ST) (pF zK n d) (λl r h ya=>YJ s hs ST N hS n (by omega) d l r hd h ya) ((ZC zK s n).1 d) 42 47 (by decide) (by decide) 5 6 n l r h ya
theorem Nl(s:zf)(hs:s.length<=1000000)(n:Nat)(d:Nat)(l:Bool)(r:zf)(hd:d<=31)(h:r <:+ s)(ya:pS zK n d l r≠.no):(vt (qi s r d l)).run=encR s d (pS zK n d l r):=by
 have gv:∀ (n d:Nat) (l:Bool) (r:zf),pS zK n d l r≠.no->∃ y,encR s d (pS zK n d l r)=some y:=by
  intro n d l r ya
  cases q:pS zK n d l r with
  | no=>exact absurd q ya
  | er=>exact⟨_,rfl⟩
  | ok=>exact⟨_,rfl⟩
 unfold vt
 obtain⟨y,hy⟩:=gv n d l r ya
 rw[hy]
 refine T.GK (λn x y=>∃ m,m<=n/\∃ d l r,d<=31/\r <:+ s/\x=qi s r d l/\pS zK m d l r≠.no/\encR s d (pS zK m d l r)=some y) (λx y => ?_) (λn x y hx g hg => ?_) (n:=n) ⟨n,Nat.le_refl _,d,l,r,hd,h,rfl,ya,hy⟩
 ·rintro⟨m,hm,d,l,r,_,_,_,h,_⟩
  have:m=0:=by omega
  subst this
  exact h (by unfold pS; rfl)
 ·obtain⟨m,hm,d,l,r,hd,h,rfl,ya,hy⟩:=hx
  rw[<- hy]
  cases m with
  | zero=>exact absurd (by unfold pS; rfl) ya
  | succ m =>
   have SX:∀ k,k<=m->∀ d l r,d<=31->r <:+ s->pS zK k d l r≠.no->(g (qi s r d l)).run=encR s d (pS zK k d l r):=by
    intro k hk d l r hd h ya
    obtain⟨y,hy⟩:=gv k d l r ya
    rw[hy]
    exact hg _ _ ⟨k,by omega,d,l,r,hd,h,rfl,ya,hy⟩
   unfold pS at ya ⊢
   unfold vH
   refine JB ?_ (JJ ya)
   rw[Qb]
   exact JT s hs d (qH λy0=>g y0) (pP zK m d) (λl r h ya=>Jm s hs (λy0=>g y0) m SX m (by omega) d l r hd h ya) ((ZC zK s m).2.1 d) 43 45 (by decide) (by decide) 3 4 m l r h ya
def lH(s:zf):PR->Expr×Int×Int×Bool
 | .no=>(zE,0,0,false)
 | .er k b _ _ l=>(zE,((wS s b:Nat):Int),k,l)
 | .ok e [] l=>(e,0,0,l)
 | .ok _ (c::r) l=>(zE,((wS s (c::r):Nat):Int),2,l)
def dB(z:Rat)(s:zf):PR:=pS z (3*s.length+3) 0 false s
theorem HQ{z:Rat}(hz:yh z)(s:zf):dB z s≠.no:=(FK hz _).2.2 0 false s (Nat.le_refl _)
theorem E3(z:Rat)(s:zf):(dB z s).XL s:=(ZC z s _).2.2 0 false s (List.suffix_refl s)
theorem QK{z:Rat}(hz:yh z)(s:zf):(dB z s).cf s.length:=(Wl hz _).2.2 0 false s
theorem Y8(s:zf)(hs:s.length<=1000000):∃ p,(uB (s,((0:Int),((0:Int),(false,()))))).run=some ((lH s (dB zK s)).1,((lH s (dB zK s)).2.1,((lH s (dB zK s)).2.2.1,p)))/\p.2.2.2.1=(lH s (dB zK s)).2.2.2:=by
 have ya:=HQ jc s
 have SG:=E3 zK s
 have hr:=Nl s hs (3*s.length+3) 0 false s (by omega) (List.suffix_refl s) ya
 have e0:qi s s 0 false=(s,((0:Int),((0:Int),(false,())))):=by unfold qi; rw[D4]; rfl
 rw[e0]at hr
 have hr:(vt (s,((0:Int),((0:Int),(false,()))))).run=encR s 0 (dB zK s):=hr
 unfold uB
 cases q:dB zK s with
 | no=>exact absurd q ya
 | er k b r d l =>
  rw[q]at hr
  refine⟨qi s r d l,?_,rfl⟩
  rw[z6 hr,Sum.elim_inr]
  rfl
 | ok e r l =>
  rw[q]at hr SG
  cases r with
  | nil =>
   refine⟨qi s [] 0 l,?_,rfl⟩
   rw[z6 hr,Sum.elim_inl]
   dsimp only
   rw[vg,wv,Zh,zh]
   rfl
  | cons c r =>
   refine⟨qi s (c::r) 0 l,?_,rfl⟩
   rw[z6 hr,Sum.elim_inl]
   dsimp only
   rw[vg,wv,nn SG,zm]
   rfl
def G5(s:zf)(R:PR):Expr×Int×Int :=
 if(lH s R).2.2.1≠0 then(zE,((lH s R).2.1,(lH s R).2.2.1))
 else if(lH s R).2.2.2=true\/Y5 (lH s R).1=false then(zE,((0:Int),(3:Int)))
 else((lH s R).1,((0:Int),(0:Int)))
def qo(s:zf):Expr×Int×Int:=G5 s (dB zK s)
theorem sQ:jQ zE:=iS 0 zK [] jc (by simp)
theorem QU{s:zf}{R:PR}{N:Nat}(h:R.cf N)(h1:1<=N):jQ (lH s R).1/\vR (lH s R).1<=N:=by
 have hz:jQ zE/\vR zE<=N:=⟨sQ,h1⟩
 cases R with
 | no=>exact hz
 | er=>exact hz
 | ok e r l =>
  cases r with
  | nil=>exact⟨h.1,by have:=h.2; show vR e<=N; omega⟩
  | cons=>exact hz
theorem XU(s:zf)(hs:s.length<=900000):(uI s).run=some (qo s):=by
 obtain⟨p,h1,h2⟩:=Y8 s (by omega)
 have hg:=QU (s:=s) (R:=dB zK s) (N:=s.length+1) (by
  have:=QK jc s
  cases q:dB zK s with
  | no=>trivial
  | er=>trivial
  | ok e r l=>rw[q]at this; exact⟨this.1,by have:=this.2; omega⟩) (by omega)
 unfold qo G5
 generalize lH s (dB zK s)=w at h1 h2 hg ⊢
 obtain⟨e,at_,x,l⟩:=w
 dsimp only at h1 h2 hg ⊢
 unfold uI
 rw[z6 h1]
 dsimp only
 by_cases c:x≠0
 ·rw[zc (by simpa using c),z7,if_pos c]
 ·rw[za (by simpa using c),if_neg c,h2]
  have hI:=Cc e hg.1.1 (by omega)
  rw[z6 (a:=(decide (l=true\/Y5 e=false),(zE,(p,e))))]
  ·dsimp only
   by_cases c2:l=true\/Y5 e=false
   ·rw[zc (decide_eq_true c2),z7,if_pos c2]
   ·rw[za (decide_eq_false c2),z7,if_neg c2]
  ·cases l with
   | true=>rw[zm,z7]; simp
   | false =>
    rw[zh,z6 hI,z7]
    cases Y5 e<;>simp
inductive QR where
 | no
 | er (k:Int) (bad:zf) (x:Expr) (r:zf) (d:Nat) (l:Bool)
 | ok (e:Expr) (r:zf) (l:Bool)
def QR.XL(s:zf)(d:Nat):QR->Prop
 | .no=>True
 | .er k b _ r d' _=>k≠0/\b <:+ s/\r <:+ s/\d<=d'/\d'<=1000
 | .ok _ r _=>r <:+ s
theorem OZ:zO 2=[2]:=by rw[yz (by omega),show 2 / 4294967296=0 from rfl,qM]; rfl
theorem DV:lF [50]=(false,[2],[1],()):=by
 have e:oF [50]=some (2,1):=by decide +kernel
 unfold lF
 rw[e]
 show jz _ 2 1=_
 unfold jz
 rw[if_neg (by decide),show 2 / Nat.gcd 2 1=2 from rfl,show 1 / Nat.gcd 2 1=1 from rfl,OZ,P0]
 rfl
def cr(s:zf):Expr:=.mk 2 zK s []
theorem FI:norm (false,[2],[1],())=(false,[2],[1],()):=by
 rw[<- DV]
 have e:oF [50]=some (2,1):=by decide +kernel
 have:lF [50]=jz (List.isPrefixOf [45] [50]) 2 1:=by
  unfold lF
  rw[e]
  rfl
 rw[this]
 exact C7 _ _ _
theorem NB:gW (lF [50])=true:=by
 rw[DV]
 unfold gW mq hH trimB
 rw[FI]
 show(((zO 2==[2])&&((zO 1==[1])&&_))&&_)=true
 rw[OZ,P0]
 rfl
theorem JW(s:zf):jQ (qo s).1/\vR (qo s).1<=s.length+1:=by
 have hg:=QU (s:=s) (R:=dB zK s) (N:=s.length+1) (by
  have:=QK jc s
  cases q:dB zK s with
  | no=>trivial
  | er=>trivial
  | ok e r l=>rw[q]at this; exact⟨this.1,by have:=this.2; omega⟩) (by omega)
 have hz:jQ zE/\vR zE<=s.length+1:=⟨sQ,by show(1:Nat)+0<=s.length+1; omega⟩
 unfold qo G5
 split
 ·exact hz
 ·split
  ·exact hz
  ·exact hg
theorem zj{α:Type}(n:Nat)(t:T α):(T.zC (vG n 0 n n) t).run=t.run:=zH t rfl rfl rfl
theorem CJ(s:zf)(h:s.length<=1000000000):(bP s).run=some (w7 32 [] s):=by
 have e:(strings_FieldsFunc s (λz0=>kX z0)).run=some (w7 32 [] s):=by
  unfold strings_FieldsFunc
  rw[zd (by omega),z7]
 unfold bP
 rw[z6 e,z7]
def kA:zf->Option (zf×Int×zf)
 | []=>none
 | b::r=>if b=61 then some ([],0,r)else if b=60 then(if[61].isPrefixOf r=true then some ([],2,r.drop 1)else some ([],1,r))else
   match kA r with
   | some (l,c,q)=>some (b::l,c,q)
   | none=>none
theorem tW:∀ {s:zf},(∀ b∈s,b≠60/\b≠61)->kA s=none
 | [],_=>rfl
 | b::r,h=>by
  have hb:=h b List.mem_cons_self
  unfold kA
  rw[if_neg hb.2,if_neg hb.1,tW λx hx=>h x (List.mem_cons_of_mem _ hx)]
theorem Xk:∀ {a:zf} (t:zf),(∀ b∈a,b≠60/\b≠61)->kA (a++t)=(match kA t with | some (l,c,q)=>some (a++l,c,q) | none=>none)
 | [],t,_=>by
  show kA t=_
  cases kA t<;>rfl
 | b::a,t,h=>by
  have hb:=h b List.mem_cons_self
  show(if b=61 then _ else if b=60 then _ else match kA (a++t)with | some (l,c,q)=>some (b::l,c,q) | none=>none)=_
  rw[if_neg hb.2,if_neg hb.1,Xk t λx hx=>h x (List.mem_cons_of_mem _ hx)]
  cases kA t<;>rfl
theorem Q2:∀ s:zf,(kG s [60,61] = -1/\∀ b∈s,b≠60/\b≠61)\/∃ (a:zf) (c:UInt8) (r:zf),s=a++c::r/\(c=60\/c=61)/\(∀ b∈a,b≠60/\b≠61)/\kG s [60,61]=(a.length:Int)
 | []=>.inl ⟨rfl,λb h=>by cases h⟩
 | b::r=>by
  by_cases hb:b=60\/b=61
  ·refine .inr ⟨[],b,r,rfl,hb,λx h=>absurd h List.not_mem_nil,?_⟩
   unfold kG
   rw[if_pos (by rcases hb with rfl | rfl<;>rfl)]
   rfl
  ·have hn:b≠60/\b≠61:=⟨λh=>hb (.inl h),λh=>hb (.inr h)⟩
   have hc:([60,61]:zf).contains b=false:=by
    rw[List.contains_eq_mem,decide_eq_false_iff_not]
    simp[hn.1,hn.2]
   have e:kG (b::r) [60,61]=if kG r [60,61] == -1 then -1 else kG r [60,61]+1:=by
    show(if([60,61]:zf).contains b=true then _ else _)=_
    rw[hc,if_neg (by simp)]
   rcases Q2 r with⟨h1,h2⟩ | ⟨a,c,q,rfl,h2,h3,h4⟩
   ·refine .inl ⟨by rw[e,h1]; rfl,λx hx => ?_⟩
    rcases List.mem_cons.1 hx with rfl | hx
    ·exact hn
    ·exact h2 x hx
   ·refine .inr ⟨b::a,c,q,rfl,h2,λx hx => ?_,?_⟩
    ·rcases List.mem_cons.1 hx with rfl | hx
     ·exact hn
     ·exact h3 x hx
    ·rw[e,h4,if_neg (by rw[beq_iff_eq]; omega),List.length_cons]; omega
theorem My(a:zf)(c:UInt8)(r:zf):um ((a.length:Nat):Int) ((a.length+1:Nat):Int) (a++c::r)=[c]:=by
 rw[bA]
 rw[show(a++c::r).take (a.length+1)=a++[c] by rw[List.take_append,List.take_of_length_le (by omega)]; simp]
 simp
theorem L4(a t:zf):um (0:Int) ((a.length:Nat):Int) (a++t)=a:=by
 have:=bA (a++t) 0 a.length
 rw[List.drop_zero,List.take_left']at this
 ·exact this
 ·rfl
theorem CK(a:zf)(c:UInt8)(r:zf):um ((a.length+1:Nat):Int) (((a++c::r).length:Nat):Int) (a++c::r)=r:=by
 rw[bA,List.take_length,show a++c::r=(a++[c])++r by simp,List.drop_left' (by simp)]
theorem YO(s p:zf)(h:s.length<=1000000000)(hp:p.length<=1000000):(strings_HasPrefix s p).run=some (List.isPrefixOf p s):=by
 have e:(xb s p).run=some (List.isPrefixOf p s):=by
  unfold xb
  rw[zd (λhd=>b9.2 ⟨by omega,by omega,by have:=of_decide_eq_true hd; omega⟩),z7]
  have hc:um (0:Int) ((p.length:Nat):Int) s=s.take p.length:=by
   have:=bA s 0 p.length
   rwa [List.drop_zero]at this
  rw[hc]
  congr 1
  rw[Bool.eq_iff_iff,Bool.and_eq_true,decide_eq_true_eq,wu,decide_eq_true_eq,List.isPrefixOf_iff_prefix,List.prefix_iff_eq_take]
  constructor
  ·rintro⟨-,e⟩; exact e.symm
  ·intro e
   exact⟨by have:=congrArg List.length e; rw[List.length_take]at this; omega,e.symm⟩
 unfold strings_HasPrefix
 rw[z6 e,z7]
def js(bp s:zf):Expr×Expr×zf×Int:=match kA s with
 | none=>(zE,(zE,(([]:zf),(2:Int))))
 | some (l,c,r)=>if(qo l).2.2≠0 then((qo l).1,(zE,(([]:zf),(qo l).2.2)))
  else((qo l).1,((qo r).1,(yV c,(if(qo r).2.2=0/\¬ (0<=gK bp (yV c))then 2 else(qo r).2.2))))
theorem nH(s bp:zf)(hs:s.length<=80000)(hg:bp.length<=1000):(wR s bp).run=some (js bp s):=by
 have hI:(strings_IndexAny s [60,61]).run=some (kG s [60,61]):=by
  unfold strings_IndexAny
  rw[zd ⟨by omega,by decide,by decide,by decide⟩,z7]
 unfold wR
 rw[z6 hI]
 rcases Q2 s with⟨h1,h2⟩ | ⟨a,c,r,rfl,hc,ha,hi⟩
 ·rw[h1,zc (by rfl),z7]
  unfold js
  rw[tW h2]
 ·have hlen:(a++c::r).length=a.length+(r.length+1):=by rw[List.length_append,List.length_cons]
  have hw:zZ (((a.length:Nat):Int)+1)=((a.length+1:Nat):Int):=by rw[zI (by omega) (by omega)]; omega
  rw[hi,za (decide_eq_false (by omega)),hw,zd (b9.2 ⟨by omega,by omega,by omega⟩),zd (b9.2 ⟨by omega,by omega,by omega⟩),zd (b9.2 ⟨by omega,by omega,by omega⟩),My,CK,L4]
  have fin:∀ (cm:Int) (q:zf),kA (a++c::r)=some (a,cm,q)->q.length<=80000->(cm=0\/cm=1\/cm=2)->(T.bind (uI a) λ(r1,r2,e) =>
   .ite (e != (0:Int))
    (.ret (r1,(zE,(([]:zf),e))))
    (T.bind (T.bind (uI q) λ(r3,r4,e1) =>
       T.bind (.ite (e1==(0:Int))
          (T.bind (strings_Contains bp (yV cm)) λr5 =>
           .ret ((!r5),(r1,r3)))
          (.ret (false,(r1,r3))):T ((Bool×AM.Expr×AM.Expr))) λ(x1,v4,v5) =>
       .ite x1
        (.ret ((2:Int),(v4,v5)))
        (.ret (e1,(v4,v5))):T ((Int×AM.Expr×AM.Expr))) λ(e2,v6,v7) =>
     .ret (v6,(v7,(yV cm,e2)))):T (AM.Expr×AM.Expr×zf×Int)).run=some (js bp (a++c::r)):=by
   intro cm q he hq hcm
   unfold js
   rw[he,z6 (XU a (by omega))]
   dsimp only
   have hQ:=XU q (by omega)
   generalize qo a=A
   generalize qo q=B at hQ ⊢
   obtain⟨A1,A2,A3⟩:=A
   obtain⟨B1,B2,B3⟩:=B
   dsimp only
   by_cases e:A3≠0
   ·rw[if_pos e,zc (by simpa using e),z7]
   ·rw[if_neg e,za (by simpa using e)]
    have hC:(strings_Contains bp (yV cm)).run=some (decide ((0:Int)<=gK bp (yV cm))):=by
     unfold strings_Contains
     rw[zd (by omega),z7]
    have inner:(T.bind (uI q) λ(r3,r4,e1) =>
       T.bind (.ite (e1==(0:Int))
          (T.bind (strings_Contains bp (yV cm)) λr5 =>
           .ret ((!r5),(A1,r3)))
          (.ret (false,(A1,r3))):T ((Bool×AM.Expr×AM.Expr))) λ(x1,v4,v5) =>
       .ite x1
        (.ret ((2:Int),(v4,v5)))
        (.ret (e1,(v4,v5))):T ((Int×AM.Expr×AM.Expr))).run=some ((if B3=0/\¬ (0<=gK bp (yV cm))then 2 else B3),(A1,B1)):=by
     rw[z6 hQ]
     dsimp only
     by_cases e2:B3=0
     ·subst e2
      have hb:(.ite (((0:Int))==(0:Int)) (T.bind (strings_Contains bp (yV cm)) λr5=>.ret ((!r5),(A1,B1))) (.ret (false,(A1,B1))):T ((Bool×AM.Expr×AM.Expr))).run=some ((!decide ((0:Int)<=gK bp (yV cm))),(A1,B1)):=by
       rw[zc (by rfl),z6 hC,z7]
      rw[z6 hb]
      dsimp only
      by_cases k:(0:Int)<=gK bp (yV cm)
      ·rw[if_neg (λh=>h.2 k),za (by rw[decide_eq_true k]; rfl),z7]
      ·rw[if_pos ⟨rfl,k⟩,zc (by rw[decide_eq_false k]; rfl),z7]
     ·have hb:(.ite (B3==(0:Int)) (T.bind (strings_Contains bp (yV cm)) λr5=>.ret ((!r5),(A1,B1))) (.ret (false,(A1,B1))):T ((Bool×AM.Expr×AM.Expr))).run=some (false,(A1,B1)):=by
       rw[za (by simpa using e2),z7]
      rw[z6 hb]
      dsimp only
      rw[if_neg (λh=>e2 h.1),zh,z7]
    rw[z6 inner]
    dsimp only
    rw[z7]
  have oB:=Xk (c::r) ha
  rcases hc with rfl | rfl
  ·have hp:=YO r [61] (by omega) (by decide)
   have hq:(.ite (zk ([60]:zf) ([60]:zf)) (T.bind (strings_HasPrefix r ([61]:zf)) λr=>.ret (r,(zE,zE))) (.ret (false,(zE,zE))):T (Bool×AM.Expr×AM.Expr)).run=some (List.isPrefixOf [61] r,(zE,zE)):=by
    rw[zc (Kx _),z6 hp,z7]
   have ec:kA (60::r)=(if[61].isPrefixOf r=true then some ([],2,r.drop 1)else some ([],1,r)):=by
    show(if(60:UInt8)=61 then _ else if(60:UInt8)=60 then _ else _)=_
    rw[if_neg (by decide),if_pos rfl]
   rw[ec]at oB
   by_cases k:[61].isPrefixOf r=true
   ·rw[if_pos k]at oB
    have hr:r.length >= 1:=by
     cases r with
     | nil=>cases k
     | cons x y=>simp
    have Te:(T.bind (.ite (zk ([60]:zf) ([60]:zf)) (T.bind (strings_HasPrefix r ([61]:zf)) λr=>.ret (r,(zE,zE))) (.ret (false,(zE,zE))):T (Bool×AM.Expr×AM.Expr)) λ(x,v,v1) =>
     .ite x
      (.zC (gb (1:Int) ((r.length:Nat):Int) (List.length r)) <|
       .ret (([60,61]:zf),((um (1:Int) ((r.length:Nat):Int) r),(v,v1))))
      (.ret (([60]:zf),(r,(v,v1)))):T ((zf×zf×AM.Expr×AM.Expr))).run=some (([60,61]:zf),(r.drop 1,(zE,zE))):=by
     rw[z6 hq]
     dsimp only
     rw[zc k,zd (b9.2 ⟨by omega,by omega,by omega⟩),z7]
     have:=bA r 1 r.length
     rw[List.take_length]at this
     rw[show um (1:Int) ((r.length:Nat):Int) r=r.drop 1 from this]
    refine(z6 Te _).trans ?_
    exact fin 2 (r.drop 1) (by rw[oB]; simp) (by rw[List.length_drop]; omega) (.inr (.inr rfl))
   ·rw[if_neg k]at oB
    have Te:(T.bind (.ite (zk ([60]:zf) ([60]:zf)) (T.bind (strings_HasPrefix r ([61]:zf)) λr=>.ret (r,(zE,zE))) (.ret (false,(zE,zE))):T (Bool×AM.Expr×AM.Expr)) λ(x,v,v1) =>
     .ite x
      (.zC (gb (1:Int) ((r.length:Nat):Int) (List.length r)) <|
       .ret (([60,61]:zf),((um (1:Int) ((r.length:Nat):Int) r),(v,v1))))
      (.ret (([60]:zf),(r,(v,v1)))):T ((zf×zf×AM.Expr×AM.Expr))).run=some (([60]:zf),(r,(zE,zE))):=by
     rw[z6 hq]
     dsimp only
     rw[za (by cases hh:List.isPrefixOf [61] r with | false=>rfl | true=>exact absurd hh k),z7]
    refine(z6 Te _).trans ?_
    exact fin 1 r (by rw[oB]; simp) (by omega) (.inr (.inl rfl))
  ·have ec:kA (61::r)=some ([],0,r):=by
    show(if(61:UInt8)=61 then _ else _)=_
    rw[if_pos rfl]
   rw[ec]at oB
   have Te:(T.bind (.ite (zk ([61]:zf) ([60]:zf)) (T.bind (strings_HasPrefix r ([61]:zf)) λr=>.ret (r,(zE,zE))) (.ret (false,(zE,zE))):T (Bool×AM.Expr×AM.Expr)) λ(x,v,v1) =>
     .ite x
      (.zC (gb (1:Int) ((r.length:Nat):Int) (List.length r)) <|
       .ret (([60,61]:zf),((um (1:Int) ((r.length:Nat):Int) r),(v,v1))))
      (.ret (([61]:zf),(r,(v,v1)))):T ((zf×zf×AM.Expr×AM.Expr))).run=some (([61]:zf),(r,(zE,zE))):=by
    have hq:(.ite (zk ([61]:zf) ([60]:zf)) (T.bind (strings_HasPrefix r ([61]:zf)) λr=>.ret (r,(zE,zE))) (.ret (false,(zE,zE))):T (Bool×AM.Expr×AM.Expr)).run=some (false,(zE,zE)):=by
     rw[za (by rfl),z7]
    rw[z6 hq]
    dsimp only
    rw[zh,z7]
   refine(z6 Te _).trans ?_
   exact fin 0 r (by rw[oB]; simp) (by omega) (.inl rfl)
theorem Fy(b c:UInt8):(((b.toNat:Nat):Int)==((c.toNat:Nat):Int))=decide (b=c):=by
 rw[Bool.eq_iff_iff,beq_iff_eq,decide_eq_true_eq]
 constructor
 ·intro h; exact UInt8.toNat_inj.1 (by omega)
 ·rintro rfl; rfl
theorem Xf(c:UInt8):∀ (l cur r:zf),(∀ b∈l,b≠c)->w7 c cur (l++r)=w7 c (cur++l) r
 | [],cur,r,_=>by rw[List.append_nil]; rfl
 | b::l,cur,r,h=>by
  show(if b=c then _ else w7 c (cur++[b]) (l++r))=_
  rw[if_neg (h b List.mem_cons_self),Xf c l _ r (λx hx=>h x (List.mem_cons_of_mem _ hx)),List.append_assoc]
  rfl
def Wn(w:List zf)(n:Nat):zf×Bool:=if w.length=n then([],true)
 else if w.length=n+2/\zk (nth w (n:Int) (zq .str)) [119,104,101,110]=true/\zJ (nth w ((n+1:Nat):Int) (zq .str))=true then(nth w ((n+1:Nat):Int) (zq .str),true)else([],false)
theorem pQ(w:List zf)(n:Nat)(hn:n<=1000):(uJ w (n:Int)).run=some (Wn w n):=by
 have w2:zZ ((n:Int)+2)=((n+2:Nat):Int):=by rw[zI (by omega) (by omega)]; omega
 have w1:zZ ((n:Int)+1)=((n+1:Nat):Int):=by rw[zI (by omega) (by omega)]; omega
 unfold uJ Wn
 rw[w2,w1]
 by_cases c:w.length=n
 ·rw[if_pos c,zc (by rw[beq_iff_eq]; omega),z7]
 ·rw[if_neg c,za (by rw[beq_eq_false_iff_ne]; omega)]
  by_cases c2:w.length=n+2
  ·have hk:(xG w ((n+2:Nat):Int) (n:Int) [119,104,101,110]).run=some (zk (nth w (n:Int) (zq .str)) [119,104,101,110]):=by
    unfold xG
    rw[zd (λ_=>vC (by omega)),z7]
    rw[show(((w.length:Nat):Int)==((n+2:Nat):Int))=true by rw[beq_iff_eq]; omega,Bool.true_and]
   have inner:(T.bind (xG w ((n+2:Nat):Int) (n:Int) [119,104,101,110]) λr =>
     .ite r
      (.zC (qO ((n+1:Nat):Int) (List.length w)) <|
       T.bind (qS (nth w ((n+1:Nat):Int) (zq .str))) λr1 =>
       .ret r1)
      (.ret false):T (Bool)).run=some (zk (nth w (n:Int) (zq .str)) [119,104,101,110]&&zJ (nth w ((n+1:Nat):Int) (zq .str))):=by
    rw[z6 hk]
    cases zk (nth w (n:Int) (zq .str)) [119,104,101,110]with
    | false=>rw[zh,z7]; rfl
    | true=>rw[zm,zd (vC (by omega)),z6 (xi _),z7]; rfl
   rw[z6 inner]
   cases q:(zk (nth w (n:Int) (zq .str)) [119,104,101,110]&&zJ (nth w ((n+1:Nat):Int) (zq .str)))with
   | false=>rw[if_neg (λh=>by rw[h.2.1,h.2.2]at q; cases q),zh,z7]
   | true=>rw[Bool.and_eq_true]at q; rw[if_pos ⟨c2,q.1,q.2⟩,zm,zd (vC (by omega)),z7]
  ·have hk:(xG w ((n+2:Nat):Int) (n:Int) [119,104,101,110]).run=some false:=by
    have hb:(((w.length:Nat):Int)==((n+2:Nat):Int))=false:=by rw[beq_eq_false_iff_ne]; omega
    unfold xG
    rw[zd (λh=>by rw[hb]at h; cases h),z7,hb,Bool.false_and]
   have inner:(T.bind (xG w ((n+2:Nat):Int) (n:Int) [119,104,101,110]) λr =>
     .ite r
      (.zC (qO ((n+1:Nat):Int) (List.length w)) <|
       T.bind (qS (nth w ((n+1:Nat):Int) (zq .str))) λr1 =>
       .ret r1)
      (.ret false):T (Bool)).run=some false:=by
    rw[z6 hk,zh,z7]
   rw[z6 inner,if_neg (λh=>c2 h.1),zh,z7]
theorem bind_mono{R R':PR}{f f':Expr->zf->Bool->PR}(h:R≠.no->R'=R)(hf:∀ e r l,f e r l≠.no->f' e r l=f e r l)(hn:R.bind f≠.no):R'.bind f'=R.bind f:=by
 cases R with
 | no=>exact absurd rfl hn
 | er k b r d l=>rw[h (by simp)]; rfl
 | ok e r l=>rw[h (by simp)]; exact hf e r l hn
theorem gQ{K K':Bool->zf->PR}(hK:∀ l q,K l q≠.no->K' l q=K l q)(m1 m2:UInt8)(k1 k2:Int):∀ (n n':Nat) (e:Expr) (r:zf) (l:Bool),n<=n'->jO K m1 m2 k1 k2 n e r l≠.no->jO K' m1 m2 k1 k2 n' e r l=jO K m1 m2 k1 k2 n e r l
 | 0,_,_,_,_,_,h=>absurd rfl h
 | n+1,0,_,_,_,h,_=>by omega
 | n+1,n'+1,e,r,l,h,hn=>by
  unfold jO at hn ⊢
  cases q:uY [m1,m2] r with
  | none=>rfl
  | some x =>
   obtain⟨c,q'⟩:=x
   rw[q]at hn
   exact bind_mono (hK l q') (λe2 q2 l2 h2=>gQ hK m1 m2 k1 k2 n n' _ q2 l2 (by omega) h2) hn
theorem XM{K K':Bool->zf->PR}(hK:∀ l q,K l q≠.no->K' l q=K l q)(m1 m2:UInt8)(k1 k2:Int)(n n':Nat)(h:n<=n')(l:Bool)(r:zf)(hn:rowP K m1 m2 k1 k2 n l r≠.no):rowP K' m1 m2 k1 k2 n' l r=rowP K m1 m2 k1 k2 n l r :=
 bind_mono (hK l r) (λe q l' h2=>gQ hK m1 m2 k1 k2 n n' e q l' h h2) hn
theorem CM{z:Rat}{F S F' S':Nat->Bool->zf->PR}(hF:∀ d l q,F d l q≠.no->F' d l q=F d l q)(hS:∀ d l q,S d l q≠.no->S' d l q=S d l q)(d:Nat)(l:Bool)(s:zf)(hn:n9 z F S d l s≠.no):n9 z F' S' d l s=n9 z F S d l s:=by
 unfold n9 at hn ⊢
 cases e:eI s with
 | nil=>rfl
 | cons c r =>
  rw[e]at hn
  dsimp only at hn ⊢
  by_cases Lq:c=45
  ·rw[if_pos Lq]at hn ⊢
   rw[if_pos Lq]
   by_cases c31:31<=d
   ·rw[if_pos c31,if_pos c31]
   ·rw[if_neg c31]at hn ⊢
    rw[if_neg c31]
    exact bind_mono (hF _ _ _) (λ_ _ _ _=>rfl) hn
  ·rw[if_neg Lq]at hn ⊢
   rw[if_neg Lq]
   by_cases Li:c=40
   ·rw[if_pos Li]at hn ⊢
    rw[if_pos Li]
    by_cases c31:31<=d
    ·rw[if_pos c31,if_pos c31]
    ·rw[if_neg c31]at hn ⊢
     rw[if_neg c31]
     exact bind_mono (hS _ _ _) (λ_ _ _ _=>rfl) hn
   ·rw[if_neg Li,if_neg Li]
theorem kW(z:Rat):∀ (n n':Nat),n<=n'->(∀ d l r,pF z n d l r≠.no->pF z n' d l r=pF z n d l r)/\(∀ d l r,pP z n d l r≠.no->pP z n' d l r=pP z n d l r)/\(∀ d l r,pS z n d l r≠.no->pS z n' d l r=pS z n d l r)
 | 0,_,_=>⟨λ_ _ _ h=>absurd (by unfold pF; rfl) h,λ_ _ _ h=>absurd (by unfold pP; rfl) h,λ_ _ _ h=>absurd (by unfold pS; rfl) h⟩
 | n+1,0,h=>by omega
 | n+1,n'+1,h=>by
  obtain⟨h1,h2,h3⟩:=kW z n n' (by omega)
  refine⟨λd l r hn => ?_,λd l r hn => ?_,λd l r hn => ?_⟩
  ·unfold pF at hn ⊢; exact CM h1 h3 d l r hn
  ·unfold pP at hn ⊢; exact XM (h1 d) _ _ _ _ n n' (by omega) l r hn
  ·unfold pS at hn ⊢; exact XM (h2 d) _ _ _ _ n n' (by omega) l r hn
def SF(d:Nat)(l:Bool)(s:zf)(R:PR):Prop:=R≠.no/\∃ n,pF zK n d l s=R
def SP(d:Nat)(l:Bool)(s:zf)(R:PR):Prop:=R≠.no/\∃ n,pP zK n d l s=R
def SS(d:Nat)(l:Bool)(s:zf)(R:PR):Prop:=R≠.no/\∃ n,pS zK n d l s=R
def RP(d:Nat)(e:Expr)(r:zf)(l:Bool)(R:PR):Prop:=R≠.no/\∃ n m,jO (pF zK n d) 42 47 5 6 m e r l=R
def RS(d:Nat)(e:Expr)(r:zf)(l:Bool)(R:PR):Prop:=R≠.no/\∃ n m,jO (pP zK n d) 43 45 3 4 m e r l=R
theorem Ep{d:Nat}{l:Bool}{s:zf}{e:Expr}{q:zf}{l':Bool}{R:PR}(h1:SF d l s (.ok e q l'))(h2:RP d e q l' R):SP d l s R:=by
 obtain⟨_,n1,e1⟩:=h1
 obtain⟨hR,n2,m,e2⟩:=h2
 refine⟨hR,max (max n1 n2) m+1,?_⟩
 unfold pP rowP
 rw[(kW zK n1 (max (max n1 n2) m) (by omega)).1 d l s (by rw[e1]; simp),e1]
 show jO _ _ _ _ _ _ e q l'=R
 rw[gQ (λl q h=>(kW zK n2 (max (max n1 n2) m) (by omega)).1 d l q h) 42 47 5 6 m (max (max n1 n2) m) e q l' (by omega) (by rw[e2]; exact hR),e2]
theorem PJ{d:Nat}{l:Bool}{s:zf}{e:Expr}{q:zf}{l':Bool}{R:PR}(h1:SP d l s (.ok e q l'))(h2:RS d e q l' R):SS d l s R:=by
 obtain⟨_,n1,e1⟩:=h1
 obtain⟨hR,n2,m,e2⟩:=h2
 refine⟨hR,max (max n1 n2) m+1,?_⟩
 unfold pS rowP
 rw[(kW zK n1 (max (max n1 n2) m) (by omega)).2.1 d l s (by rw[e1]; simp),e1]
 show jO _ _ _ _ _ _ e q l'=R
 rw[gQ (λl q h=>(kW zK n2 (max (max n1 n2) m) (by omega)).2.1 d l q h) 43 45 3 4 m (max (max n1 n2) m) e q l' (by omega) (by rw[e2]; exact hR),e2]
theorem Vl{d:Nat}{e:Expr}{r:zf}{l:Bool}(h:uY [42,47] r=none):RP d e r l (.ok e (eI r) l):=⟨by simp,0,1,by unfold jO; rw[h]⟩
theorem Hu{d:Nat}{e:Expr}{r:zf}{l:Bool}(h:uY [43,45] r=none):RS d e r l (.ok e (eI r) l):=⟨by simp,0,1,by unfold jO; rw[h]⟩
theorem Nh{d:Nat}{e:Expr}{r:zf}{l:Bool}{c:UInt8}{q:zf}{e2:Expr}{q2:zf}{l2:Bool}{R:PR}(h:uY [42,47] r=some (c,q))(h1:SF d l q (.ok e2 q2 l2))(h2:RP d (lN (if c=42 then 5 else 6) [e,e2]) q2 l2 R):RP d e r l R:=by
 obtain⟨_,n1,e1⟩:=h1
 obtain⟨hR,n2,m,e3⟩:=h2
 refine⟨hR,max n1 n2,m+1,?_⟩
 unfold jO
 rw[h]
 dsimp only
 rw[(kW zK n1 (max n1 n2) (by omega)).1 d l q (by rw[e1]; simp),e1]
 show jO _ _ _ _ _ _ _ q2 l2=R
 rw[gQ (λl q h=>(kW zK n2 (max n1 n2) (by omega)).1 d l q h) 42 47 5 6 m m _ q2 l2 (by omega) (by rw[e3]; exact hR),e3]
theorem Nx{d:Nat}{e:Expr}{r:zf}{l:Bool}{c:UInt8}{q:zf}{e2:Expr}{q2:zf}{l2:Bool}{R:PR}(h:uY [43,45] r=some (c,q))(h1:SP d l q (.ok e2 q2 l2))(h2:RS d (lN (if c=43 then 3 else 4) [e,e2]) q2 l2 R):RS d e r l R:=by
 obtain⟨_,n1,e1⟩:=h1
 obtain⟨hR,n2,m,e3⟩:=h2
 refine⟨hR,max n1 n2,m+1,?_⟩
 unfold jO
 rw[h]
 dsimp only
 rw[(kW zK n1 (max n1 n2) (by omega)).2.1 d l q (by rw[e1]; simp),e1]
 show jO _ _ _ _ _ _ _ q2 l2=R
 rw[gQ (λl q h=>(kW zK n2 (max n1 n2) (by omega)).2.1 d l q h) 43 45 3 4 m m _ q2 l2 (by omega) (by rw[e3]; exact hR),e3]
theorem EF(m r:zf):uY m (eI r)=uY m r:=by unfold uY; rw[VV]
theorem Fq(K:Bool->zf->PR)(m1 m2:UInt8)(k1 k2:Int)(n:Nat)(e:Expr)(r:zf)(l:Bool):jO K m1 m2 k1 k2 n e (eI r) l=jO K m1 m2 k1 k2 n e r l:=by
 cases n with
 | zero=>rfl
 | succ n=>unfold jO; rw[EF,VV]
theorem OR{d:Nat}{e:Expr}{r:zf}{l:Bool}{R:PR}(h:RS d e r l R):RS d e (eI r) l R:=by
 obtain⟨hR,n,m,e2⟩:=h
 exact⟨hR,n,m,by rw[Fq,e2]⟩
theorem z11{c:UInt8}(h:Q5 c=true):uN c=false:=by
 unfold Q5 at h
 rw[Bool.and_eq_true,decide_eq_true_eq,decide_eq_true_eq]at h
 cases q:uN c with
 | false=>rfl
 | true=>have:=iM.1 q; omega
theorem Rs{d:Nat}{l:Bool}{s r:zf}{c:UInt8}(hs:eI s=c::r)(hc:Q5 c=true):SF d l s (KI (c::r) l):=by
 refine⟨by unfold KI; simp,1,?_⟩
 have Lq:c≠45:=by rintro rfl; revert hc; decide
 have Li:c≠40:=by rintro rfl; revert hc; decide
 unfold pF n9
 rw[hs]
 dsimp only
 rw[if_neg Lq,if_neg Li,if_neg (by rw[z11 hc]; simp),if_pos hc]
theorem Rx{s:zf}{R:PR}(h:SS 0 false s R):dB zK s=R:=by
 obtain⟨hR,n,e⟩:=h
 have h2:=HQ jc s
 unfold dB at h2 ⊢
 have a:=(kW zK (3*s.length+3) (max n (3*s.length+3)) (by omega)).2.2 0 false s h2
 have b:=(kW zK n (max n (3*s.length+3)) (by omega)).2.2 0 false s (by rw[e]; exact hR)
 rw[<- a,b,e]
def FG:zf->Bool
 | []=>true
 | c::_ => !je c && !(c==46)
theorem Ik{q:zf}(h:FG q=true):∀ c r,q=c::r->je c=false/\c≠46:=by
 rintro c r rfl
 have h:(!je c && !(c==46))=true:=h
 rw[Bool.and_eq_true]at h
 exact⟨by simpa using h.1,by simpa using h.2⟩
theorem Cg{n:Rat}(h:gW n=true):mq n=true/\n.1=false/\hH n=false/\(xV (norm n).1 (nv (norm n).2.1) (nv (norm n).2.2.1) 0 61).2=true:=by
 unfold gW at h
 simp only[Bool.and_eq_true,Bool.not_eq_true']at h
 exact⟨h.1,h.2.1,h.2.2.1,h.2.2.2⟩
theorem XJ{n:Rat}(hn:yh n)(h:mq n=true):norm n=n:=(EH n hn.1 hn.2.1).1 h
theorem QQ:∀ (n:Nat) (s q:zf),s.length<=n->s.all je=true->FG q=true->yc je n (s++q)=(s,q)
 | 0,[],q,_,_,_=>rfl
 | 0,_::_,_,h,_,_=>by simp at h
 | n+1,[],[],_,_,_=>rfl
 | n+1,[],c::q,_,_,hq=>by
  have:=(Ik hq c q rfl).1
  show(if je c=true then _ else([],c::q))=_
  rw[if_neg (by rw[this]; simp)]
 | n+1,c::s,q,h,ha,hq=>by
  rw[List.all_cons,Bool.and_eq_true]at ha
  have ih:=QQ n s q (by simpa using h) ha.2 hq
  show(if je c=true then(c::(yc je n (s++q)).1,(yc je n (s++q)).2)else _)=_
  rw[if_pos ha.1,ih]
theorem Vr{s:zf}(h:zJ s=true):s.length<=24/\s.all je=true/\∃ c r,s=c::r/\Q5 c=true:=by
 have h2:=dm h
 refine⟨h2.1,h2.2,?_⟩
 cases s with
 | nil=>cases h
 | cons c r =>
  unfold zJ at h
  dsimp only at h
  rw[Bool.and_eq_true,Bool.and_eq_true]at h
  exact⟨c,r,rfl,h.2.1⟩
theorem Cs{s:zf}(h:zJ s=true)(l:Bool){q:zf}(hq:FG q=true):KI (s++q) l=.ok (.mk 2 zK s []) q l:=by
 obtain⟨h1,h2,_⟩:=Vr h
 unfold KI
 rw[QQ 24 s q h1 h2 hq]
theorem RY{c:UInt8}{r:zf}(h:c≠32):eI (c::r)=c::r:=by unfold eI; rw[if_neg h]
theorem SB{c:UInt8}(h:Q5 c=true):c≠32:=by rintro rfl; revert h; decide
theorem Ov{d:Nat}{k:Int}{n:Rat}{s:zf}{l:List Expr}(ho:uy d (.mk k n s l)=true) :
  (k=1/\l=[]/\gW n=true/\s=[])\/(k=2/\l=[]/\zJ s=true/\j9 n=true)\/(k=7/\(∃ a,l=[a]/\uy (d+1) a=true)/\j9 n=true/\s=[])\/((k=3\/k=4\/k=5\/k=6)/\(∃ a b,l=[a,b]/\uy (d+1) a=true/\uy (d+1) b=true)/\j9 n=true/\s=[]):=by
 obtain⟨hk,hl⟩:=tU ho
 have ho:(decide (d<32)&&(jA (.mk k n s l)&&yT (d+1) l))=true:=ho
 simp only[Bool.and_eq_true]at ho
 have VZ:=ho.2.1
 unfold jA at VZ
 rw[Bool.and_eq_true]at VZ
 have hb:=VZ.2
 clear VZ
 rw[show Expr.kind (.mk k n s l)=k from rfl,show Expr.num (.mk k n s l)=n from rfl,show Expr.name (.mk k n s l)=s from rfl]at hb
 have L9:(l.length:Int)=0->l=[]:=λh=>List.eq_nil_of_length_eq_zero (by omega)
 by_cases h1:k=1
 ·rw[if_pos h1,Bool.and_eq_true,wu,decide_eq_true_eq]at hb
  refine .inl ⟨h1,L9 ?_,hb.1,hb.2⟩
  rw[hk]; unfold lX; rw[if_pos (.inl h1)]
 ·rw[if_neg h1]at hb
  by_cases h2:k=2
  ·rw[if_pos h2,Bool.and_eq_true]at hb
   refine .inr (.inl ⟨h2,L9 ?_,hb.2,hb.1⟩)
   rw[hk]; unfold lX; rw[if_pos (.inr h2)]
  ·rw[if_neg h2,Bool.and_eq_true,wu,decide_eq_true_eq]at hb
   rcases Gu hk h1 h2 with⟨h7,a,rfl⟩ | ⟨Mz,a,b,rfl⟩
   ·have hl:(uy (d+1) a&&yT (d+1) [])=true:=hl
    rw[Bool.and_eq_true]at hl
    exact .inr (.inr (.inl ⟨h7,⟨a,rfl,hl.1⟩,hb.1,hb.2⟩))
   ·have hl:(uy (d+1) a&&(uy (d+1) b&&yT (d+1) []))=true:=hl
    rw[Bool.and_eq_true,Bool.and_eq_true]at hl
    exact .inr (.inr (.inr ⟨Mz,⟨a,b,rfl,hl.1,hl.2.1⟩,hb.1,hb.2⟩))
theorem Ug{n:Rat}(h:j9 n=true):norm n=norm zK:=by
 unfold j9 at h
 simp only[Bool.and_eq_true,List.isEmpty_iff]at h
 have:nv n.2.1=0:=by rw[h.2.1]; rfl
 unfold norm
 have z:∀ b d,jz b 0 d=(false,[],[1],()):=λb d=>by unfold jz; rw[if_pos (.inl rfl)]
 rw[this,z,show nv zK.2.1=0 from rfl,z]
theorem IP{d:Nat}{k:Int}{n:Rat}{s:zf}{l:List Expr}(h1:d<32)(h2:jA (.mk k n s l)=true)(h3:yT (d+1) l=true):uy d (.mk k n s l)=true:=by
 show(decide (d<32)&&(jA (.mk k n s l)&&yT (d+1) l))=true
 rw[decide_eq_true h1,h2,h3]; rfl
theorem C1{e:Expr}(h:Y5 e=true):uy 0 e=true/\vR e<=256:=by
 unfold Y5 at h
 rw[Bool.and_eq_true,decide_eq_true_eq]at h
 exact h
theorem C3{s:zf}{e:Expr}{a:Int}(h:qo s=(e,(a,(0:Int)))):Y5 e=true:=by
 unfold qo G5 at h
 split at h
 ·rename_i c
  injection h with _ h
  injection h with _ h
  exact absurd h c
 ·split at h
  ·injection h with _ h
   injection h with _ h
   exact absurd h (by decide)
  ·rename_i c
   injection h with h _
   rw[<- h]
   cases q:Y5 (lH s (dB zK s)).1 with
   | true=>rfl
   | false=>exact absurd (.inr q) c
theorem PW{n:Rat}(hn:yh n)(h:gW n=true):8*n.2.1.length+8*n.2.2.1.length<=256:=by
 obtain⟨h1,h2,h3,h4⟩:=Cg h
 have e:=XJ hn h1
 unfold hH at h3
 rw[e,Bool.or_eq_false_iff,decide_eq_false_iff_not,decide_eq_false_iff_not]at h3
 omega
theorem Ws{n:Rat}(hn:yh n)(h:j9 n=true):8*n.2.1.length+8*n.2.2.1.length<=256:=by
 have h0:=h
 unfold j9 at h
 simp only[Bool.and_eq_true,Bool.or_eq_true,List.isEmpty_iff]at h
 obtain⟨_,h2,h3⟩:=h
 rcases h3 with h3 | h3
 ·rw[h2,h3]; simp
 ·have e:=XJ hn h3
  have e2:=Ug h0
  rw[e]at e2
  rw[e2]
  decide +kernel
theorem z1e:∀ (m:Nat) (e:Expr) (d:Nat),vR e<=m->uy d e=true->allOk e->szE e<=283*vR e:=by
 intro m
 induction m with
 | zero=>intro e d hm; have:=WH e; omega
 | succ m ih =>
  intro e d hm ho ha
  cases e with | mk k n s l =>
  have hn:=ha.1
  rcases Ov ho with⟨rfl,rfl,h1,rfl⟩ | ⟨rfl,rfl,h1,h2⟩ | ⟨rfl,⟨a,rfl,hoa⟩,h1,rfl⟩ | ⟨hk,⟨a,b,rfl,hoa,hob⟩,h1,rfl⟩
  ·have:=PW hn h1
   simp only[szE,szEs,vR,jB,List.length_nil]; omega
  ·have:=Ws hn h2
   have:=(dm h1).1
   simp only[szE,szEs,vR,jB]; omega
  ·have e1:vR (.mk 7 n [] [a])=1+(vR a+0):=rfl
   have:=Ws hn h1
   have:=ih a _ (by omega) hoa ha.2.1
   simp only[szE,szEs,List.length_nil]; omega
  ·have e1:vR (.mk k n [] [a,b])=1+(vR a+(vR b+0)):=rfl
   have:=Ws hn h1
   have:=ih a _ (by omega) hoa ha.2.1
   have:=ih b _ (by omega) hob ha.2.2.1
   simp only[szE,szEs,List.length_nil]; omega
theorem F7{e:Expr}(h:Y5 e=true)(ha:allOk e):jD e:=by
 obtain⟨h1,h2⟩:=C1 h
 have:=z1e _ e 0 (Nat.le_refl _) h1 ha
 exact⟨by omega,h2,ha⟩
theorem tu(s:zf):jD (qo s).1:=by
 have hg:=(JW s).1.1
 by_cases h:(qo s).2.2=0
 ·refine F7 (C3 (s:=s) (a:=(qo s).2.1) ?_) hg
  rw[<- h]
 ·have e:(qo s).1=zE:=by
   unfold qo G5 at h ⊢
   split
   ·rfl
   ·split
    ·rfl
    ·rename_i c1 c2
     rw[if_neg c1,if_neg c2]at h
     exact absurd rfl h
  rw[e]
  exact Hp (by decide) sQ.1
def qI(s:zf):Expr×Expr×Int×Int:=match kA s with
 | none=>(zE,(zE,((0:Int),(2:Int))))
 | some (l,c,r)=>if(qo l).2.2≠0 then(zE,(zE,((0:Int),(qo l).2.2)))else((qo l).1,((qo r).1,(c,(qo r).2.2)))
abbrev fa:=List Switch×List Param×List xc×List Field×List qV×List Check
def xj:fa:=([],[],[],[],[],[])
def wd(l:List zf)(k:Nat):zf:=nth l (k:Int) (zq .str)
def Wx(l:List zf):Int×fa:=if l.length=3/\zJ (wd l 1)=true/\(zk (wd l 2) [111,110]=true\/zk (wd l 2) [111,102,102]=true)
 then(0,[(wd l 1,(zk (wd l 2) [111,110],()))],[],[],[],[],[])else(2,xj)
def rZ(s:zf):Option Rat:=if 400<s.length then none else match oF s with | some (n,d)=>some (jz (List.isPrefixOf [45] s) n d) | none=>none
def ZF(l:List zf):Int×fa:=if l.length=3/\zJ (wd l 1)=true then(match rZ (wd l 2)with | some r=>(0,[],[(wd l 1,(r,()))],[],[],[],[]) | none=>(2,xj))else(2,xj)
def sS(l:List zf):Int×fa:=if 2<=l.length/\zJ (wd l 1)=true/\(Wn l 2).2=true then(0,[],[],[(wd l 1,((Wn l 2).1,()))],[],[],[])else(2,xj)
def lL(w:List zf):Bool:=match w with | x::_=>zk x [109,117,115,116] | []=>false
def il(w:List zf):Option Int:=match w with
 | []=>some 0
 | [a,[c]]=>if zk a [115,99,97,108,101]=true/\48<=c.toNat/\c.toNat<=57 then some ((c.toNat:Int)-48)else none
 | _=>none
def kl(l:List zf):List zf:=if lL (l.drop 2)=true then l.drop 3 else l.drop 2
def Q3(np:Nat)(l:List zf):Int×fa:=if 2<=l.length/\zJ (wd l 1)=true/\np≠0
 then(match il (kl l)with | some k=>(0,[],[],[],[(wd l 1,((np:Int)-1,(lL (l.drop 2),(k,()))))],[],[]) | none=>(2,xj))else(2,xj)
def YP(s:zf):Int:=PL.mZ (λt=>zk s t) 0 [[114,101,113,117,105,114,101,100],[115,116,114,111,110,103],[109,101,100,105,117,109],[119,101,97,107]]
def YK(np:Nat)(l:List zf)(rest:zf):Int×fa:=if l.length=2/\zJ (wd l 1)=true/\np≠0
 then((qI rest).2.2.2,[],[],[],[],[],[(wd l 1,((np:Int)-1,((qI rest).2.2.1,((qI rest).1,((qI rest).2.1,())))))])else(2,xj)
def Xp(l:List zf)(rest:zf):Int×fa:=if 3<=l.length/\0<=YP (wd l 1)/\zJ (wd l 2)=true/\(Wn l 3).2=true
 then(if(qI rest).2.2.2=0/\(qI rest).2.2.1≠0 then(2,xj)else((qI rest).2.2.2,[],[],[],[],[(wd l 2,(YP (wd l 1),((Wn l 3).1,((qI rest).1,((qI rest).2.1,())))))],[]))else(2,xj)
theorem Mq{n:Nat}(h:0<n):qO (0:Int) n:=⟨Int.le_refl _,by omega⟩
theorem bC{n:Nat}(h:1<n):qO (1:Int) n:=⟨by decide,by omega⟩
theorem JF{n:Nat}(h:2<n):qO (2:Int) n:=⟨by decide,by omega⟩
theorem VB(l:List zf)(xs:List Switch)(yd:List Param)(vd:List xc)(yY:List Field)(gf:List qV)(gp:List Check)(hx:xs.length<=1000000) :
  (vW l () xs yd vd yY gf gp).run=some (decide ((Wx l).1=0),((),(xs++(Wx l).2.1,(yd,(vd,(yY,(gf,gp))))))):=by
 unfold vW Wx
 by_cases c1:l.length=3
 ·refine(z6 (a:=(!(zJ (wd l 1)&&(zk (wd l 2) [111,110]||zk (wd l 2) [111,102,102])),((),(xs,(yd,(vd,(yY,(gf,gp)))))))) ?_ _).trans ?_
  ·rw[za (by rw[c1]; rfl),zd (bC (by omega)),z6 (xi _)]
   show(T.ite (!zJ (wd l 1)) _ _).run=_
   cases zJ (wd l 1)with
   | false=>rw[zc (by rfl)]; simp only[zj,T.zg,zi,z7]; rfl
   | true =>
    rw[za (by rfl),zd (JF (by omega))]
    show(T.ite (!zk (wd l 2) [111,110]) _ _).run=_
    cases zk (wd l 2) [111,110]with
    | true=>rw[za (by rfl)]; simp only[zj,T.zg,zi,z7]; rfl
    | false=>rw[zc (by rfl),zd (JF (by omega))]; simp only[zj,T.zg,zi,z7]; rfl
  ·dsimp only
   by_cases q:zJ (wd l 1)=true/\(zk (wd l 2) [111,110]=true\/zk (wd l 2) [111,102,102]=true)
   ·rw[if_pos ⟨c1,q⟩,za (by rw[q.1]; rcases q.2 with h | h<;>simp[h]),zd (bC (by omega)),zd (JF (by omega)),cR _ rfl rfl rfl (by omega)]
    simp only[List.length_append,List.length_singleton,zj,T.zg,zi,z7]
    rfl
   ·rw[if_neg (λh=>q h.2),zc]
    ·simp only[zj,T.zg,zi,z7]
     show _=some (false,((),(xs++[],_)))
     rw[List.append_nil]
    ·cases h1:zJ (wd l 1)<;>cases h2:zk (wd l 2) [111,110]<;>cases h3:zk (wd l 2) [111,102,102]<;>simp[h1,h2,h3]at q<;>rfl
 ·refine(z6 (a:=(true,((),(xs,(yd,(vd,(yY,(gf,gp)))))))) ?_ _).trans ?_
  ·rw[zc (by rw[bne_iff_ne]; omega)]
   simp only[zj,T.zg,zi,z7]
  ·dsimp only
   rw[if_neg (λh=>c1 h.1),zm]
   simp only[zj,T.zg,zi,z7]
   show _=some (false,((),(xs++[],_)))
   rw[List.append_nil]
theorem Vh(s:zf)(hs:s.length<=1000000000):∃ r e,(kh s).run=some (r,e)/\(match rZ s with | some q=>r=q/\e=0 | none=>e≠0):=by
 have h:=lM s hs
 unfold rZ
 by_cases c:400<s.length
 ·rw[if_pos c]at h ⊢
  exact⟨_,_,h,by decide⟩
 ·rw[if_neg c]at h ⊢
  cases q:oF s with
  | none=>rw[q]at h; exact⟨_,_,h,show(2:Int)≠0 by decide⟩
  | some p=>rw[q]at h; exact⟨_,_,h,rfl,rfl⟩
theorem UL(l:List zf)(xs:List Switch)(yd:List Param)(vd:List xc)(yY:List Field)(gf:List qV)(gp:List Check)(hx:yd.length<=1000000)(hl:∀ s∈l,s.length<=1000000) :
  ∃ Q,(vq l () xs yd vd yY gf gp).run=some (decide ((ZF l).1=0),((),(xs,(yd++Q,(vd,(yY,(gf,gp)))))))/\((ZF l).1=0->Q=(ZF l).2.2.1):=by
 by_cases c1:l.length=3/\zJ (wd l 1)=true
 ·obtain⟨r,e,h1,h2⟩:=Vh (wd l 2) (by have:=hl _ (yw (l:=l) (i:=2) (d:=zq .str) (by omega) (by omega)); exact Nat.le_trans this (by omega))
  have h1:(kh (nth l 2 (zq .str))).run=some (r,e):=h1
  refine⟨[(wd l 1,(r,()))],?_,?_⟩
  ·unfold vq
   refine(z6 (a:=(false,((),(xs,(yd,(vd,(yY,(gf,gp)))))))) ?_ _).trans ?_
   ·rw[za (by rw[c1.1]; rfl),zd (bC (by omega)),z6 (xi _)]
    simp only[zj,T.zg,zi,z7]
    show some (!zJ (wd l 1),_)=_
    rw[c1.2]; rfl
   ·dsimp only
    rw[zh,zd (JF (by omega)),z6 h1]
    dsimp only
    rw[zd (bC (by omega)),cR _ rfl rfl rfl (by omega)]
    simp only[List.length_append,List.length_singleton,zj,T.zg,zi,z7]
    have:(e==(0:Int))=decide ((ZF l).1=0):=by
     unfold ZF
     rw[if_pos c1]
     cases hd:rZ (wd l 2)with
     | none=>rw[hd]at h2; rw[decide_eq_false (show ¬ (2:Int)=0 by decide)]; simpa using h2
     | some q=>rw[hd]at h2; rw[h2.2]; rfl
    rw[this]
    rfl
  ·intro h0
   unfold ZF at h0 ⊢
   rw[if_pos c1]at h0 ⊢
   cases hd:rZ (wd l 2)with
   | none=>rw[hd]at h0; exact absurd h0 (show ¬ (2:Int)=0 by decide)
   | some q=>rw[hd]at h2; rw[h2.1]
 ·have e2:ZF l=(2,xj):=by unfold ZF; rw[if_neg c1]
  refine⟨[],?_,λh=>by rw[e2]at h; exact absurd h (by decide)⟩
  unfold vq
  rw[e2,List.append_nil]
  refine(z6 (a:=(true,((),(xs,(yd,(vd,(yY,(gf,gp)))))))) ?_ _).trans ?_
  ·by_cases k:l.length=3
   ·have hn:zJ (wd l 1)=false:=by
     cases h:zJ (wd l 1)with
     | false=>rfl
     | true=>exact absurd ⟨k,h⟩ c1
    rw[za (by rw[k]; rfl),zd (bC (by omega)),z6 (xi _)]
    simp only[zj,T.zg,zi,z7]
    show some (!zJ (wd l 1),_)=_
    rw[hn]; rfl
   ·rw[zc (by rw[bne_iff_ne]; omega)]
    simp only[zj,T.zg,zi,z7]
  ·dsimp only
   rw[zm]
   simp only[zj,T.zg,zi,z7]
   rfl
theorem Wz(l:List zf)(xs:List Switch)(yd:List Param)(vd:List xc)(yY:List Field)(gf:List qV)(gp:List Check)(hx:vd.length<=1000000) :
  ∃ Q,(wQ l () xs yd vd yY gf gp).run=some (decide ((sS l).1=0),((),(xs,(yd,(vd++Q,(yY,(gf,gp)))))))/\((sS l).1=0->Q=(sS l).2.2.2.1):=by
 by_cases c1:2<=l.length/\zJ (wd l 1)=true
 ·have hg:(uJ l (2:Int)).run=some ((Wn l 2).1,(Wn l 2).2):=pQ l 2 (by decide)
  refine⟨[(wd l 1,((Wn l 2).1,()))],?_,?_⟩
  ·unfold wQ
   refine(z6 (a:=(false,((),(xs,(yd,(vd,(yY,(gf,gp)))))))) ?_ _).trans ?_
   ·rw[za (decide_eq_false (by omega)),zd (bC (by omega)),z6 (xi _)]
    simp only[zj,T.zg,zi,z7]
    show some (!zJ (wd l 1),_)=_
    rw[c1.2]; rfl
   ·dsimp only
    rw[zh,z6 hg]
    dsimp only
    rw[zd (bC (by omega)),cR _ rfl rfl rfl (by omega)]
    simp only[List.length_append,List.length_singleton,zj,T.zg,zi,z7]
    have:(Wn l 2).2=decide ((sS l).1=0):=by
     unfold sS
     cases(Wn l 2).2 with
     | false=>rw[if_neg (λh=>by have:=h.2.2; cases this),decide_eq_false (by decide)]
     | true=>rw[if_pos ⟨c1.1,c1.2,rfl⟩]; rfl
    rw[this]
    rfl
  ·intro h0
   unfold sS at h0 ⊢
   split at h0
   ·rename_i h; rw[if_pos h]
   ·exact absurd h0 (by decide)
 ·have e2:sS l=(2,xj):=by unfold sS; rw[if_neg (λh=>c1 ⟨h.1,h.2.1⟩)]
  refine⟨[],?_,λh=>by rw[e2]at h; exact absurd h (by decide)⟩
  unfold wQ
  rw[e2,List.append_nil]
  refine(z6 (a:=(true,((),(xs,(yd,(vd,(yY,(gf,gp)))))))) ?_ _).trans ?_
  ·by_cases k:2<=l.length
   ·have hn:zJ (wd l 1)=false:=by
     cases h:zJ (wd l 1)with
     | false=>rfl
     | true=>exact absurd ⟨k,h⟩ c1
    rw[za (decide_eq_false (by omega)),zd (bC (by omega)),z6 (xi _)]
    simp only[zj,T.zg,zi,z7]
    show some (!zJ (wd l 1),_)=_
    rw[hn]; rfl
   ·rw[zc (decide_eq_true (by omega))]
    simp only[zj,T.zg,zi,z7]
  ·dsimp only
   rw[zm]
   simp only[zj,T.zg,zi,z7]
   rfl
theorem F2(c k:UInt8):strLt [c] [k]=decide (c.toNat<k.toNat):=by
 show Op.bytesLess [c] [k]=_
 unfold Op.bytesLess
 by_cases h:c.toNat<k.toNat
 ·rw[decide_eq_true h]; simp[Op.bytesLess,UInt8.lt_iff_toNat_lt,h]
 ·rw[decide_eq_false h]; simp[Op.bytesLess,UInt8.lt_iff_toNat_lt,h]
theorem X2{e:Ty}(l:List (den e))(k:Nat):vQ (e:=e) (k:Int) ((l.length:Nat):Int) l=l.drop k:=by unfold vQ; simp only[Int.toNat_natCast,List.take_length]
def Dm(w:List zf):Option Int:=match w with
 | [a,[c]]=>if zk a [115,99,97,108,101]=true/\48<=c.toNat/\c.toNat<=57 then some ((c.toNat:Int)-48)else none
 | _=>none
theorem B8(a:zf)(c:UInt8):Dm [a,[c]]=if zk a [115,99,97,108,101]=true/\48<=c.toNat/\c.toNat<=57 then some ((c.toNat:Int)-48)else none:=rfl
theorem Z0:∀ (x:zf) (r:List zf),il (x::r)=Dm (x::r)
 | _,[]=>rfl
 | _,[[]]=>rfl
 | _,[[_]]=>rfl
 | _,[_::_::_]=>rfl
 | _,[]::_::_=>rfl
 | _,[_]::_::_=>rfl
 | _,(_::_::_)::_::_=>rfl
theorem N0(l:List zf)(n k:Nat)(s:zf)(h:k<n):(xG l (n:Int) (k:Int) s).run=some (decide (l.length=n)&&zk (wd l k) s):=by
 unfold xG
 rw[zd (λh1=>vC (by rw[beq_iff_eq]at h1; omega)),z7]
 have:(((l.length:Nat):Int)==(n:Int))=decide (l.length=n):=by rw[Bool.eq_iff_iff,beq_iff_eq,decide_eq_true_eq]; omega
 rw[this]; rfl
theorem Ql(l:List zf)(xs:List Switch)(yd:List Param)(vd:List xc)(yY:List Field)(gf:List qV)(gp:List Check)(hx:yY.length<=1000000)(Ya:vd.length<=1000000) :
  ∃ Q,(vp l () xs yd vd yY gf gp).run=some (decide ((Q3 vd.length l).1=0),((),(xs,(yd,(vd,(yY++Q,(gf,gp)))))))/\((Q3 vd.length l).1=0->Q=(Q3 vd.length l).2.2.2.2.1):=by
 by_cases c1:2<=l.length/\zJ (wd l 1)=true/\vd.length≠0
 ·have hw:zZ (((vd.length:Nat):Int)-1)=(vd.length:Int)-1:=zI (by omega) (by omega)
  have d2:vQ (e:=.str) (2:Int) ((l.length:Nat):Int) l=l.drop 2:=X2 (e:=.str) l 2
  have d3:vQ (e:=.str) (1:Int) (((l.drop 2).length:Nat):Int) (l.drop 2)=l.drop 3:=by
   rw[show l.drop 3=(l.drop 2).drop 1 by rw[List.drop_drop]]
   exact X2 (e:=.str) (l.drop 2) 1
  refine⟨[(wd l 1,((vd.length:Int)-1,(lL (l.drop 2),((Dm (kl l)).getD 0,()))))],?_,?_⟩
  ·unfold vp
   refine(z6 (a:=(false,((),(xs,(yd,(vd,(yY,(gf,gp)))))))) ?_ _).trans ?_
   ·rw[za (decide_eq_false (by omega)),zd (bC (by omega)),z6 (xi _)]
    show(T.ite (!zJ (wd l 1)) _ _).run=_
    rw[c1.2.1,za (by rfl)]
    simp only[zj,T.zg,zi,z7]
    rw[beq_eq_false_iff_ne.2 (by omega)]
   ·dsimp only
    rw[zh,zd (bC (by omega)),zd (b9.2 ⟨by omega,by omega,by omega⟩),d2,hw]
    refine(z6 (a:=(kl l,((),(xs,(yd,(vd,(yY,(gf,(gp,(wd l 1,((vd.length:Int)-1,(lL (l.drop 2),((0:Int),())))))))))))) ) ?_ _).trans ?_
    ·have hm:(decide ((0:Int)<(((l.drop 2).length:Nat):Int))&&zk (nth (l.drop 2) (0:Int) (zq .str)) ([109,117,115,116]:zf))=lL (l.drop 2):=by
      unfold lL
      cases l.drop 2 with
      | nil=>rfl
      | cons x r=>rw[decide_eq_true (by rw[List.length_cons]; omega)]; rfl
     rw[zd (λh=>Mq (by have:=of_decide_eq_true h; omega)),hm]
     unfold kl
     cases q:lL (l.drop 2)with
     | true =>
      have hp:0<(l.drop 2).length:=by
       cases h:l.drop 2 with
       | nil=>rw[h]at q; cases q
       | cons=>simp
      rw[zm,zd (b9.2 ⟨by omega,by omega,by omega⟩),d3]
      simp only[zj,T.zg,zi,z7]
      rfl
     | false =>
      rw[zh]
      simp only[zj,T.zg,zi,z7]
      rfl
    ·dsimp only
     refine(z6 (a:=((match Dm (kl l)with | some _=>[] | none=>kl l),((),(xs,(yd,(vd,(yY,(gf,(gp,(wd l 1,((vd.length:Int)-1,(lL (l.drop 2),((Dm (kl l)).getD 0,())))))))))))) ) ?_ _).trans ?_
     ·refine(z6 (a:=((Dm (kl l)).isSome,((),(xs,(yd,(vd,(yY,(gf,(gp,(wd l 1,((vd.length:Int)-1,(lL (l.drop 2),((0:Int),())))))))))))) ) ?_ _).trans ?_
      ·have hk:(xG (kl l) (2:Int) (0:Int) ([115,99,97,108,101]:zf)).run=some (decide ((kl l).length=2)&&zk (wd (kl l) 0) [115,99,97,108,101]):=N0 (kl l) 2 0 _ (by decide)
       rw[z6 hk]
       generalize kl l=w
       by_cases k:w.length=2/\zk (wd w 0) [115,99,97,108,101]=true
       ·rw[zc (by rw[decide_eq_true k.1,k.2]; rfl),zd (bC (by omega))]
        match w,k with
        | [a,[]],k=>rw[za (by rfl)]; simp only[zj,T.zg,zi,z7]; rfl
        | [a,x::y::r],k =>
         rw[za (by rw[beq_eq_false_iff_ne]; show((List.length (x::y::r):Nat):Int)≠1; rw[List.length_cons,List.length_cons]; omega)]
         simp only[zj,T.zg,zi,z7]; rfl
        | [a,[c]],k =>
         have ha:zk a [115,99,97,108,101]=true:=k.2
         have e1:strLt (nth [a,[c]] (1:Int) (zq .str)) [48]=decide (c.toNat<48):=F2 c 48
         have e2:strLt (nth [a,[c]] (1:Int) (zq .str)) [57]=decide (c.toNat<57):=F2 c 57
         have e3:zk (nth [a,[c]] (1:Int) (zq .str)) [57]=decide (c.toNat=57):=by
          show zk [c] [57]=_
          rw[wu]
          by_cases h:c=57
          ·subst h; rfl
          ·rw[decide_eq_false (λq=>h (by injection q)),decide_eq_false (show ¬ c.toNat=57 from λq=>h (UInt8.toNat_inj.1 q))]
         rw[zc (by rfl),zd (bC (by simp)),e1]
         by_cases g1:c.toNat<48
         ·rw[decide_eq_true g1,za (by rfl)]
          simp only[zj,T.zg,zi,z7]
          rw[B8,if_neg (λh=>by have:=h.2.1; omega)]; rfl
         ·rw[decide_eq_false g1,zc (by rfl),zd (bC (by simp)),e2,e3]
          simp only[zj,T.zg,zi,z7]
          rw[B8]
          by_cases g2:c.toNat<=57
          ·rw[if_pos ⟨ha,by omega,g2⟩]
           have:(decide (c.toNat<57)||decide (c.toNat=57))=true:=by
            rw[Bool.or_eq_true,decide_eq_true_eq,decide_eq_true_eq]; omega
           rw[this]; rfl
          ·rw[if_neg (λh=>g2 h.2.2),decide_eq_false (by omega),decide_eq_false (by omega)]; rfl
       ·have hs:Dm w=none:=by
         unfold Dm
         split
         ·rename_i a c
          rw[if_neg (λh=>k ⟨rfl,h.1⟩)]
         ·rfl
        rw[za (by
         by_cases g:w.length=2
         ·rw[decide_eq_true g,Bool.true_and]
          cases h:zk (wd w 0) [115,99,97,108,101]with
          | false=>rfl
          | true=>exact absurd ⟨g,h⟩ k
         ·rw[decide_eq_false g]; rfl),hs]
        simp only[zj,T.zg,zi,z7]
        rfl
      ·dsimp only
       generalize kl l=w
       cases q:Dm w with
       | none =>
        show(T.ite false _ _).run=_
        rw[zh]
        simp only[zj,T.zg,zi,z7]
        rfl
       | some v =>
        show(T.ite true _ _).run=_
        unfold Dm at q
        split at q
        ·rename_i a c
         split at q
         ·rename_i h
          injection q with q
          have e4:zZ (Lm (qz (nth [a,[c]] (1:Int) (zq .str)) (0:Int)-48))=v:=by
           show zZ (Lm ((c.toNat:Int)-48))=v
           have:=h.2.1
           have:=h.2.2
           rw[Gc (by omega) (by omega),zI (by omega) (by omega)]
           exact q
          rw[zm,zd (bC (by simp)),zd (Mq (by show 0<List.length [c]; simp)),e4]
          simp only[zj,T.zg,zi,z7]
          rfl
         ·cases q
        ·cases q
     ·dsimp only
      rw[cR _ rfl rfl rfl (by omega)]
      simp only[List.length_append,List.length_singleton,zj,T.zg,zi,z7]
      congr 2
      unfold Q3
      rw[if_pos c1]
      generalize kl l=w
      cases q:Dm w with
      | some v =>
       cases w with
       | nil=>cases q
       | cons x r=>rw[Z0,q]; rfl
      | none =>
       cases w with
       | nil=>rfl
       | cons x r =>
        rw[Z0,q]
        show(((List.length (x::r):Nat):Int)==0)=decide ((2:Int)=0)
        rw[List.length_cons,beq_eq_false_iff_ne.2 (by omega)]; rfl
  ·intro h0
   unfold Q3 at h0 ⊢
   rw[if_pos c1]at h0 ⊢
   generalize kl l=w at h0 ⊢
   cases q:il w with
   | none=>rw[q]at h0; exact absurd h0 (show ¬ (2:Int)=0 by decide)
   | some v =>
    have:(Dm w).getD 0=v:=by
     cases w with
     | nil=>injection q
     | cons x r=>rw[Z0]at q; rw[q]; rfl
    rw[this]
 ·have e2:Q3 vd.length l=(2,xj):=by unfold Q3; rw[if_neg c1]
  refine⟨[],?_,λh=>by rw[e2]at h; exact absurd h (by decide)⟩
  unfold vp
  rw[e2,List.append_nil]
  refine(z6 (a:=(true,((),(xs,(yd,(vd,(yY,(gf,gp)))))))) ?_ _).trans ?_
  ·by_cases k:2<=l.length
   ·rw[za (decide_eq_false (by omega)),zd (bC (by omega)),z6 (xi _)]
    show(T.ite (!zJ (wd l 1)) _ _).run=_
    cases h:zJ (wd l 1)with
    | false =>
     rw[zc (by rfl)]
     simp only[zj,T.zg,zi,z7]
    | true =>
     rw[za (by rfl)]
     simp only[zj,T.zg,zi,z7]
     have:vd.length=0:=Classical.byContradiction λg=>c1 ⟨k,h,g⟩
     rw[this]; rfl
   ·rw[zc (decide_eq_true (by omega))]
    simp only[zj,T.zg,zi,z7]
  ·dsimp only
   rw[zm]
   simp only[zj,T.zg,zi,z7]
   rfl
theorem Wb:∀ {s:zf} {l:zf} {c:Int} {r:zf},kA s=some (l,c,r)->c=0\/c=1\/c=2
 | [],_,_,_,h=>by cases h
 | b::s,l,c,r,h=>by
  unfold kA at h
  split at h
  ·injection h with h; injection h with _ h; injection h with h _; exact .inl h.symm
  ·split at h
   ·split at h
    ·injection h with h; injection h with _ h; injection h with h _; exact .inr (.inr h.symm)
    ·injection h with h; injection h with _ h; injection h with h _; exact .inr (.inl h.symm)
   ·split at h
    ·rename_i q
     injection h with h; injection h with _ h; injection h with h _
     rw[<- h]
     exact Wb q
    ·cases h
theorem CN(s:zf):(js [60,61] s).2.2.2=(qI s).2.2.2/\((qI s).2.2.2=0->(js [60,61] s).1=(qI s).1/\(js [60,61] s).2.1=(qI s).2.1/\PL.mZ (λt=>zk (js [60,61] s).2.2.1 t) 0 [[61],[60],[60,61]]=(qI s).2.2.1):=by
 unfold js qI
 cases h:kA s with
 | none=>exact⟨rfl,λh=>absurd h (by decide)⟩
 | some p =>
  obtain⟨l,c,r⟩:=p
  dsimp only
  have hc:=Wb h
  have hk:(0:Int)<=gK [60,61] (yV c):=by rcases hc with rfl | rfl | rfl<;>decide
  by_cases e:(qo l).2.2≠0
  ·rw[if_pos e,if_pos e]
   exact⟨rfl,λh=>absurd h e⟩
  ·rw[if_neg e,if_neg e]
   refine⟨if_neg (λh=>h.2 hk),λ_=>⟨rfl,rfl,?_⟩⟩
   show PL.mZ (λt=>zk (yV c) t) 0 [[61],[60],[60,61]]=c
   rcases hc with rfl | rfl | rfl<;>decide
theorem IK(s:zf):(js [61] s).2.2.2=(if(qI s).2.2.2=0/\(qI s).2.2.1≠0 then 2 else(qI s).2.2.2)/\((js [61] s).2.2.2=0->(js [61] s).1=(qI s).1/\(js [61] s).2.1=(qI s).2.1):=by
 cases h:kA s with
 | none =>
  have h1:js [61] s=(zE,(zE,(([]:zf),(2:Int)))):=by unfold js; rw[h]
  have h2:qI s=(zE,(zE,((0:Int),(2:Int)))):=by unfold qI; rw[h]
  rw[h1,h2]
  exact⟨rfl,λh=>absurd h (by decide)⟩
 | some p =>
  obtain⟨l,c,r⟩:=p
  have hc:=Wb h
  have hk:(0:Int)<=gK [61] (yV c)↔c=0:=by rcases hc with rfl | rfl | rfl<;>decide
  by_cases e:(qo l).2.2≠0
  ·have h1:js [61] s=((qo l).1,(zE,(([]:zf),(qo l).2.2))):=by unfold js; rw[h]; exact if_pos e
   have h2:qI s=(zE,(zE,((0:Int),(qo l).2.2))):=by unfold qI; rw[h]; exact if_pos e
   rw[h1,h2]
   exact⟨(if_neg (λh=>e h.1)).symm,λh=>absurd h e⟩
  ·have h1:js [61] s=((qo l).1,((qo r).1,(yV c,(if(qo r).2.2=0/\¬ (0<=gK [61] (yV c))then 2 else(qo r).2.2)))):=by unfold js; rw[h]; exact if_neg e
   have h2:qI s=((qo l).1,((qo r).1,(c,(qo r).2.2))):=by unfold qI; rw[h]; exact if_neg e
   rw[h1,h2]
   refine⟨?_,λ_=>⟨rfl,rfl⟩⟩
   simp only[ne_eq,hk]
theorem Qt(l:List zf)(rest:zf)(xs:List Switch)(yd:List Param)(vd:List xc)(yY:List Field)(gf:List qV)(gp:List Check)(hx:gp.length<=1000000)(Ya:vd.length<=1000000)(hr:rest.length<=80000) :
  ∃ Q,(wC l rest () xs yd vd yY gf gp).run=some ((YK vd.length l rest).1,((),(xs,(yd,(vd,(yY,(gf,gp++Q)))))))/\((YK vd.length l rest).1=0->Q=(YK vd.length l rest).2.2.2.2.2.2):=by
 by_cases c1:l.length=2/\zJ (wd l 1)=true/\vd.length≠0
 ·have hw:zZ (((vd.length:Nat):Int)-1)=(vd.length:Int)-1:=zI (by omega) (by omega)
  obtain⟨q1,q2⟩:=CN rest
  have e0:YK vd.length l rest=((qI rest).2.2.2,[],[],[],[],[],[(wd l 1,((vd.length:Int)-1,((qI rest).2.2.1,((qI rest).1,((qI rest).2.1,())))))]):=by unfold YK; rw[if_pos c1]
  have hE:(wR rest [60,61]).run=some ((js [60,61] rest).1,((js [60,61] rest).2.1,((js [60,61] rest).2.2.1,(js [60,61] rest).2.2.2))):=nH rest [60,61] hr (by decide)
  refine⟨[(wd l 1,((vd.length:Int)-1,(PL.mZ (λt=>zk (js [60,61] rest).2.2.1 t) 0 [[61],[60],[60,61]],((js [60,61] rest).1,((js [60,61] rest).2.1,())))))],?_,?_⟩
  ·unfold wC
   refine(z6 (a:=(false,((),(xs,(yd,(vd,(yY,(gf,gp)))))))) ?_ _).trans ?_
   ·rw[za (by rw[c1.1]; rfl),zd (bC (by omega)),z6 (xi _)]
    show(T.ite (!zJ (wd l 1)) _ _).run=_
    rw[c1.2.1,za (by rfl)]
    simp only[zj,T.zg,zi,z7]
    rw[beq_eq_false_iff_ne.2 (by omega)]
   ·dsimp only
    rw[zh,zd (bC (by omega)),z6 hE]
    dsimp only
    rw[show wb=.ret [[61],[60],[60,61]]from rfl,z6 (z7 _),z6 (lQ _ _ (by decide)),cR _ rfl rfl rfl (by omega),hw,mv,mv]
    simp only[List.length_append,List.length_singleton,zj,T.zg,zi,z7]
    rw[e0,q1]
    rfl
  ·intro h0
   rw[e0]at h0 ⊢
   obtain⟨g1,g2,g3⟩:=q2 h0
   rw[g1,g2,g3]
 ·have e2:YK vd.length l rest=(2,xj):=by unfold YK; rw[if_neg c1]
  refine⟨[],?_,λh=>by rw[e2]at h; exact absurd h (by decide)⟩
  unfold wC
  rw[e2,List.append_nil]
  refine(z6 (a:=(true,((),(xs,(yd,(vd,(yY,(gf,gp)))))))) ?_ _).trans ?_
  ·by_cases k:l.length=2
   ·rw[za (by rw[k]; rfl),zd (bC (by omega)),z6 (xi _)]
    show(T.ite (!zJ (wd l 1)) _ _).run=_
    cases h:zJ (wd l 1)with
    | false =>
     rw[zc (by rfl)]
     simp only[zj,T.zg,zi,z7]
    | true =>
     rw[za (by rfl)]
     simp only[zj,T.zg,zi,z7]
     have:vd.length=0:=Classical.byContradiction λg=>c1 ⟨k,h,g⟩
     rw[this]; rfl
   ·rw[zc (by rw[bne_iff_ne]; omega)]
    simp only[zj,T.zg,zi,z7]
  ·dsimp only
   rw[zm]
   simp only[zj,T.zg,zi,z7]
theorem Vx(l:List zf)(rest:zf)(xs:List Switch)(yd:List Param)(vd:List xc)(yY:List Field)(gf:List qV)(gp:List Check)(hx:gf.length<=1000000)(hr:rest.length<=80000) :
  ∃ Q,(xT l rest () xs yd vd yY gf gp).run=some ((Xp l rest).1,((),(xs,(yd,(vd,(yY,(gf++Q,gp)))))))/\((Xp l rest).1=0->Q=(Xp l rest).2.2.2.2.2.1):=by
 have hI:(qx [[114,101,113,117,105,114,101,100],[115,116,114,111,110,103],[109,101,100,105,117,109],[119,101,97,107]] (nth l (1:Int) (zq .str))).run=some (YP (wd l 1)):=lQ _ _ (by decide)
 have hC:(xJ [[114,101,113,117,105,114,101,100],[115,116,114,111,110,103],[109,101,100,105,117,109],[119,101,97,107]] (nth l (1:Int) (zq .str))).run=some (decide (0<=YP (wd l 1))):=by
  unfold xJ
  rw[z6 hI,z7]
 have hS:xl=.ret [[114,101,113,117,105,114,101,100],[115,116,114,111,110,103],[109,101,100,105,117,109],[119,101,97,107]]:=rfl
 by_cases c1:3<=l.length/\0<=YP (wd l 1)/\zJ (wd l 2)=true
 ·have hg:(uJ l (3:Int)).run=some ((Wn l 3).1,(Wn l 3).2):=pQ l 3 (by decide)
  obtain⟨q1,q2⟩:=IK rest
  have hE:(wR rest [61]).run=some ((js [61] rest).1,((js [61] rest).2.1,((js [61] rest).2.2.1,(js [61] rest).2.2.2))):=nH rest [61] hr (by decide)
  by_cases c2:(Wn l 3).2=true
  ·refine⟨[(wd l 2,(YP (wd l 1),((Wn l 3).1,((js [61] rest).1,((js [61] rest).2.1,())))))],?_,?_⟩
   ·unfold xT
    refine(z6 (a:=(false,((),(xs,(yd,(vd,(yY,(gf,gp)))))))) ?_ _).trans ?_
    ·rw[za (decide_eq_false (by omega)),hS,z6 (z7 _),zd (bC (by omega)),z6 hC,za (by rw[decide_eq_true c1.2.1]; rfl),zd (JF (by omega)),z6 (xi _)]
     simp only[zj,T.zg,zi,z7]
     show some (!zJ (wd l 2),_)=_
     rw[c1.2.2]; rfl
    ·dsimp only
     rw[zh,z6 hg]
     dsimp only
     rw[c2,za (by rfl),zd (JF (by omega)),hS,z6 (z7 _),zd (bC (by omega)),z6 hI,z6 hE]
     dsimp only
     rw[cR _ rfl rfl rfl (by omega),mv,mv]
     simp only[List.length_append,List.length_singleton,zj,T.zg,zi,z7]
     have:(js [61] rest).2.2.2=(Xp l rest).1:=by
      unfold Xp
      rw[if_pos ⟨c1.1,c1.2.1,c1.2.2,c2⟩,q1]
      split<;>rfl
     rw[this]
     rfl
   ·intro h0
    unfold Xp at h0 ⊢
    rw[if_pos ⟨c1.1,c1.2.1,c1.2.2,c2⟩]at h0 ⊢
    by_cases k:(qI rest).2.2.2=0/\(qI rest).2.2.1≠0
    ·rw[if_pos k]at h0; exact absurd h0 (by decide)
    ·rw[if_neg k]at h0 ⊢ q1
     obtain⟨g1,g2⟩:=q2 (q1.trans h0)
     rw[g1,g2]
  ·have e2:Xp l rest=(2,xj):=by unfold Xp; rw[if_neg (λh=>c2 h.2.2.2)]
   refine⟨[],?_,λh=>by rw[e2]at h; exact absurd h (by decide)⟩
   unfold xT
   rw[e2,List.append_nil]
   refine(z6 (a:=(false,((),(xs,(yd,(vd,(yY,(gf,gp)))))))) ?_ _).trans ?_
   ·rw[za (decide_eq_false (by omega)),hS,z6 (z7 _),zd (bC (by omega)),z6 hC,za (by rw[decide_eq_true c1.2.1]; rfl),zd (JF (by omega)),z6 (xi _)]
    simp only[zj,T.zg,zi,z7]
    show some (!zJ (wd l 2),_)=_
    rw[c1.2.2]; rfl
   ·dsimp only
    rw[zh,z6 hg]
    dsimp only
    rw[zc (by cases h:(Wn l 3).2 with | false=>rfl | true=>exact absurd h c2)]
    simp only[zj,T.zg,zi,z7]
 ·have e2:Xp l rest=(2,xj):=by unfold Xp; rw[if_neg (λh=>c1 ⟨h.1,h.2.1,h.2.2.1⟩)]
  refine⟨[],?_,λh=>by rw[e2]at h; exact absurd h (by decide)⟩
  unfold xT
  rw[e2,List.append_nil]
  refine(z6 (a:=(true,((),(xs,(yd,(vd,(yY,(gf,gp)))))))) ?_ _).trans ?_
  ·by_cases k:3<=l.length
   ·rw[za (decide_eq_false (by omega)),hS,z6 (z7 _),zd (bC (by omega)),z6 hC]
    by_cases k2:0<=YP (wd l 1)
    ·rw[za (by rw[decide_eq_true k2]; rfl),zd (JF (by omega)),z6 (xi _)]
     simp only[zj,T.zg,zi,z7]
     show some (!zJ (wd l 2),_)=_
     cases h:zJ (wd l 2)with
     | false=>rfl
     | true=>exact absurd ⟨k,k2,h⟩ c1
    ·rw[zc (by rw[decide_eq_false k2]; rfl)]
     simp only[zj,T.zg,zi,z7]
   ·rw[zc (decide_eq_true (by omega))]
    simp only[zj,T.zg,zi,z7]
  ·dsimp only
   rw[zm]
   simp only[zj,T.zg,zi,z7]
def pR(w:zf):Bool:=match w with | b::_=>decide (b=35) | []=>false
def ek(np:Nat)(l:List zf)(rest:zf)(colon:Bool):Int×fa:=match l with
 | []=>if colon=true then(2,xj)else(0,xj)
 | w::_=>if pR w=true then(0,xj)else
   if colon=true then(if zk w [99,104,101,99,107]=true then YK np l rest else if zk w [114,117,108,101]=true then Xp l rest else(2,xj))
   else if zk w [115,119,105,116,99,104]=true then Wx l else if zk w [112,97,114,97,109]=true then ZF l
   else if zk w [112,97,103,101]=true then sS l else if zk w [102,105,101,108,100]=true then Q3 np l else(2,xj)
theorem wV(np:Nat)(w:zf)(r:List zf)(rest:zf)(colon:Bool):ek np (w::r) rest colon=if pR w=true then(0,xj)else
   if colon=true then(if zk w [99,104,101,99,107]=true then YK np (w::r) rest else if zk w [114,117,108,101]=true then Xp (w::r) rest else(2,xj))
   else if zk w [115,119,105,116,99,104]=true then Wx (w::r)else if zk w [112,97,114,97,109]=true then ZF (w::r)
   else if zk w [112,97,103,101]=true then sS (w::r)else if zk w [102,105,101,108,100]=true then Q3 np (w::r)else(2,xj):=rfl
def wq(np:Nat)(line:zf):Int×fa:=ek np (w7 32 [] (wm line [58]).1) (wm line [58]).2.1 (wm line [58]).2.2
theorem o6(c:UInt8):∀ (s cur:zf),∀ w∈w7 c cur s,w≠[]/\w.length<=cur.length+s.length
 | [],cur,w,h=>by
  unfold w7 at h
  split at h
  ·cases h
  ·rename_i hc
   rw[List.mem_singleton.1 h]
   exact⟨hc,by omega⟩
 | b::r,cur,w,h=>by
  unfold w7 at h
  split at h
  ·split at h
   ·have:=o6 c r [] w h
    exact⟨this.1,by have:=this.2; simp only[List.length_cons,List.length_nil]at *; omega⟩
   ·rename_i hc
    rcases List.mem_cons.1 h with rfl | h
    ·exact⟨hc,by omega⟩
    ·have:=o6 c r [] w h
     exact⟨this.1,by have:=this.2; simp only[List.length_cons,List.length_nil]at *; omega⟩
  ·have:=o6 c r (cur++[b]) w h
   exact⟨this.1,by have:=this.2; simp only[List.length_append,List.length_cons,List.length_nil]at *; omega⟩
structure SmS(xs:List Switch)(yd:List Param)(vd:List xc)(yY:List Field)(gf:List qV)(gp:List Check):Prop where
 l0:xs.length<=1000000
 l1:yd.length<=1000000
 l2:vd.length<=1000000
 l3:yY.length<=1000000
 l4:gf.length<=1000000
 l5:gp.length<=1000000
def pL(xs:List Switch)(yd:List Param)(vd:List xc)(yY:List Field)(gf:List qV)(gp:List Check)(D:fa):List Switch×List Param×List xc×List Field×List qV×List Check :=
 (xs++D.1,(yd++D.2.1,(vd++D.2.2.1,(yY++D.2.2.2.1,(gf++D.2.2.2.2.1,gp++D.2.2.2.2.2)))))
theorem oc(xs:List Switch)(yd:List Param)(vd:List xc)(yY:List Field)(gf:List qV)(gp:List Check):pL xs yd vd yY gf gp xj=(xs,(yd,(vd,(yY,(gf,gp))))):=by
 unfold pL xj
 simp only[List.append_nil]
theorem Ic(line:zf)(hl:line.length<=80000)(xs:List Switch)(yd:List Param)(vd:List xc)(yY:List Field)(gf:List qV)(gp:List Check)(h:SmS xs yd vd yY gf gp) :
  ∃ D,(gx line () xs yd vd yY gf gp).run=some ((wq vd.length line).1,((),pL xs yd vd yY gf gp D))/\((wq vd.length line).1=0->D=(wq vd.length line).2):=by
 obtain⟨h0,h1,h2,h3,h4,h5⟩:=h
 have hC:(strings_Cut line [58]).run=some ((wm line [58]).1,((wm line [58]).2.1,(wm line [58]).2.2)):=by
  unfold strings_Cut
  rw[zd (by omega),z7]
 have hlen:=BJ line 58
 unfold gx wq
 rw[z6 hC]
 dsimp only
 rw[z6 (CJ _ (by omega))]
 have hm:=o6 32 (wm line [58]).1 []
 generalize w7 32 [] (wm line [58]).1=l at hm ⊢
 obtain⟨_,hr⟩:=hlen
 generalize (wm line [58]).2.1=rest at hr ⊢
 generalize (wm line [58]).2.2=colon
 cases l with
 | nil =>
  refine⟨xj,?_,?_⟩
  ·rw[zd ⟨(λ_ _ h=>by simp at h),(λh=>by simp at h)⟩,oc]
   cases colon with
   | false =>
    rw[zc (by rfl)]
    simp only[zj,T.zg,zi,z7]
    rfl
   | true =>
    rw[za (by rfl),zc (by rfl),zc (by rfl)]
    simp only[zj,T.zg,zi,z7]
    rfl
  ·intro h
   cases colon with
   | false=>rfl
   | true=>exact absurd h (show ¬ (2:Int)=0 by decide)
 | cons w r =>
  obtain⟨m1,m2⟩:=hm w List.mem_cons_self
  cases w with
  | nil=>exact absurd rfl m1
  | cons b q =>
  have hL:(((((b::q)::r).length:Nat):Int)==(0:Int))=false:=by rw[List.length_cons,beq_eq_false_iff_ne]; omega
  have hP:decide ((0:Int)<((((b::q)::r).length:Nat):Int))=true:=by rw[List.length_cons]; exact decide_eq_true (by omega)
  have YT:qO (0:Int) ((b::q)::r).length:=Mq (by simp)
  have h0w:qO (0:Int) (nth ((b::q)::r) (0:Int) (zq .str)).length:=Mq (by show 0<(b::q).length; simp)
  have hb:(qz (nth ((b::q)::r) (0:Int) (zq .str)) (0:Int)==(35:Int))=decide (b=35):=Fy b 35
  have hw:nth ((b::q)::r) (0:Int) (zq .str)=b::q:=rfl
  rw[zd ⟨λ_ _ _=>⟨YT,h0w⟩,λ_ _=>⟨YT,h0w⟩⟩,hL,hb,hP]
  simp only[cond_false,Bool.true_and]
  by_cases c:b=35
  ·have e:ek vd.length ((b::q)::r) rest colon=(0,xj):=if_pos (decide_eq_true c)
   rw[e]
   refine⟨xj,?_,λ_=>rfl⟩
   rw[zc (decide_eq_true c),oc]
   simp only[zj,T.zg,zi,z7]
  ·rw[za (decide_eq_false c),zh,zd (λ_=>YT),hw]
   have hn:¬ (pR (b::q)=true):=λh=>c (of_decide_eq_true h)
   cases colon with
   | true =>
    by_cases k1:zk (b::q) [99,104,101,99,107]=true
    ·have e:ek vd.length ((b::q)::r) rest true=YK vd.length ((b::q)::r) rest:=by
      rw[wV,if_neg hn,if_pos rfl,if_pos k1]
     obtain⟨Q,g1,g2⟩:=Qt ((b::q)::r) rest xs yd vd yY gf gp h5 h2 (by omega)
     rw[e]
     refine⟨([],[],[],[],[],Q),?_,λh => ?_⟩
     ·rw[zc (by rw[k1]; rfl)]
      simp only[zj,T.zg,zi]
      rw[z6 g1]
      dsimp only
      simp only[zj,T.zg,zi,z7]
      unfold pL
      simp only[List.append_nil]
     ·rw[g2 h]
      unfold YK at h ⊢
      split at h
      ·rename_i d; rw[if_pos d]
      ·exact absurd h (by decide)
    ·by_cases k2:zk (b::q) [114,117,108,101]=true
     ·have e:ek vd.length ((b::q)::r) rest true=Xp ((b::q)::r) rest:=by
       rw[wV,if_neg hn,if_pos rfl,if_neg k1,if_pos k2]
      obtain⟨Q,g1,g2⟩:=Vx ((b::q)::r) rest xs yd vd yY gf gp h4 (by omega)
      rw[e]
      refine⟨([],[],[],[],Q,[]),?_,λh => ?_⟩
      ·rw[za (by rw[Bool.eq_false_iff.2 k1]; rfl),zd (λ_=>YT),zc (by rw[k2]; rfl)]
       simp only[zj,T.zg,zi]
       rw[z6 g1]
       dsimp only
       simp only[zj,T.zg,zi,z7]
       unfold pL
       simp only[List.append_nil]
      ·rw[g2 h]
       unfold Xp at h ⊢
       split at h
       ·rename_i d
        rw[if_pos d]
        split at h
        ·exact absurd h (by decide)
        ·rename_i d2; rw[if_neg d2]
       ·exact absurd h (by decide)
     ·have e:ek vd.length ((b::q)::r) rest true=(2,xj):=by
       rw[wV,if_neg hn,if_pos rfl,if_neg k1,if_neg k2]
      rw[e]
      refine⟨xj,?_,λ_=>rfl⟩
      rw[za (by rw[Bool.eq_false_iff.2 k1]; rfl),zd (λ_=>YT),za (by rw[Bool.eq_false_iff.2 k2]; rfl),zm,zc (by rfl),oc]
      simp only[zj,T.zg,zi,z7]
   | false =>
    have fin:∀ (v:Int),v=0\/v=2->∀ (ys:List Switch) (ys1:List Param) (ys2:List xc) (ys3:List Field) (ys4:List qV) (ys5:List Check),(T.ite (!decide (v=0)) (.ret ((2:Int),((),(ys,(ys1,(ys2,(ys3,(ys4,ys5)))))))) (.ret ((0:Int),((),(ys,(ys1,(ys2,(ys3,(ys4,ys5)))))))):T (Int×Unit×List Switch×List Param×List xc×List Field×List qV×List Check)).run=some (v,((),(ys,(ys1,(ys2,(ys3,(ys4,ys5))))))):=by
     intro v hv ys ys1 ys2 ys3 ys4 ys5
     rcases hv with rfl | rfl<;>rfl
    rw[za (by rfl),zd (λh=>by cases h),za (by rfl),zh,zd YT]
    by_cases k1:zk (b::q) [115,119,105,116,99,104]=true
    ·have e:ek vd.length ((b::q)::r) rest false=Wx ((b::q)::r):=by
      rw[wV,if_neg hn,if_neg (by decide),if_pos k1]
     have g1:=VB ((b::q)::r) xs yd vd yY gf gp h0
     rw[e]
     refine⟨((Wx ((b::q)::r)).2.1,[],[],[],[],[]),?_,λh => ?_⟩
     ·rw[zc k1]
      simp only[zj,T.zg,zi]
      rw[z6 g1]
      dsimp only
      unfold pL
      simp only[List.append_nil]
      have:(Wx ((b::q)::r)).1=0\/(Wx ((b::q)::r)).1=2:=by unfold Wx; split; exact .inl rfl; exact .inr rfl
      rcases this with h | h<;>rw[h]
      ·rw[za (by rfl)]; simp only[zj,T.zg,zi,z7]
      ·rw[zc (by rfl)]; simp only[zj,T.zg,zi,z7]
     ·unfold Wx at h ⊢
      split at h
      ·rename_i d; rw[if_pos d]
      ·exact absurd h (by decide)
    ·by_cases k2:zk (b::q) [112,97,114,97,109]=true
     ·have e:ek vd.length ((b::q)::r) rest false=ZF ((b::q)::r):=by
       rw[wV,if_neg hn,if_neg (by decide),if_neg k1,if_pos k2]
      obtain⟨Q,g1,g2⟩:=UL ((b::q)::r) xs yd vd yY gf gp h1 (λs hs=>by have:=(hm s hs).2; simp only[List.length_nil]at this; omega)
      rw[e]
      refine⟨([],Q,[],[],[],[]),?_,λh => ?_⟩
      ·rw[za (Bool.eq_false_iff.2 k1),zd YT,zc k2]
       simp only[zj,T.zg,zi]
       rw[z6 g1]
       dsimp only
       unfold pL
       simp only[List.append_nil]
       have:(ZF ((b::q)::r)).1=0\/(ZF ((b::q)::r)).1=2:=by unfold ZF; split; split; exact .inl rfl; exact .inr rfl; exact .inr rfl
       rcases this with h | h<;>rw[h]
       ·rw[za (by rfl)]; simp only[zj,T.zg,zi,z7]
       ·rw[zc (by rfl)]; simp only[zj,T.zg,zi,z7]
      ·rw[g2 h]
       unfold ZF at h ⊢
       split at h
       ·rename_i d
        rw[if_pos d]
        cases hd:rZ (wd ((b::q)::r) 2)with
        | none=>rw[hd]at h; exact absurd h (show ¬ (2:Int)=0 by decide)
        | some v=>rfl
       ·exact absurd h (by decide)
     ·by_cases k3:zk (b::q) [112,97,103,101]=true
      ·have e:ek vd.length ((b::q)::r) rest false=sS ((b::q)::r):=by
        rw[wV,if_neg hn,if_neg (by decide),if_neg k1,if_neg k2,if_pos k3]
       obtain⟨Q,g1,g2⟩:=Wz ((b::q)::r) xs yd vd yY gf gp h2
       rw[e]
       refine⟨([],[],Q,[],[],[]),?_,λh => ?_⟩
       ·rw[za (Bool.eq_false_iff.2 k1),zd YT,za (Bool.eq_false_iff.2 k2),zd YT,zc k3]
        simp only[zj,T.zg,zi]
        rw[z6 g1]
        dsimp only
        unfold pL
        simp only[List.append_nil]
        have:(sS ((b::q)::r)).1=0\/(sS ((b::q)::r)).1=2:=by unfold sS; split; exact .inl rfl; exact .inr rfl
        rcases this with h | h<;>rw[h]
        ·rw[za (by rfl)]; simp only[zj,T.zg,zi,z7]
        ·rw[zc (by rfl)]; simp only[zj,T.zg,zi,z7]
       ·rw[g2 h]
        unfold sS at h ⊢
        split at h
        ·rename_i d; rw[if_pos d]
        ·exact absurd h (by decide)
      ·by_cases k4:zk (b::q) [102,105,101,108,100]=true
       ·have e:ek vd.length ((b::q)::r) rest false=Q3 vd.length ((b::q)::r):=by
         rw[wV,if_neg hn,if_neg (by decide),if_neg k1,if_neg k2,if_neg k3,if_pos k4]
        obtain⟨Q,g1,g2⟩:=Ql ((b::q)::r) xs yd vd yY gf gp h3 h2
        rw[e]
        refine⟨([],[],[],Q,[],[]),?_,λh => ?_⟩
        ·rw[za (Bool.eq_false_iff.2 k1),zd YT,za (Bool.eq_false_iff.2 k2),zd YT,za (Bool.eq_false_iff.2 k3),zd YT,zc k4]
         simp only[zj,T.zg,zi]
         rw[z6 g1]
         dsimp only
         unfold pL
         simp only[List.append_nil]
         have:(Q3 vd.length ((b::q)::r)).1=0\/(Q3 vd.length ((b::q)::r)).1=2:=by unfold Q3; split; split; exact .inl rfl; exact .inr rfl; exact .inr rfl
         rcases this with h | h<;>rw[h]
         ·rw[za (by rfl)]; simp only[zj,T.zg,zi,z7]
         ·rw[zc (by rfl)]; simp only[zj,T.zg,zi,z7]
        ·rw[g2 h]
         unfold Q3 at h ⊢
         split at h
         ·rename_i d
          rw[if_pos d]
          cases hd:il (kl ((b::q)::r))with
          | none=>rw[hd]at h; exact absurd h (show ¬ (2:Int)=0 by decide)
          | some v=>rfl
         ·exact absurd h (by decide)
       ·have e:ek vd.length ((b::q)::r) rest false=(2,xj):=by
         rw[wV,if_neg hn,if_neg (by decide),if_neg k1,if_neg k2,if_neg k3,if_neg k4]
        rw[e]
        refine⟨xj,?_,λ_=>rfl⟩
        rw[za (Bool.eq_false_iff.2 k1),zd YT,za (Bool.eq_false_iff.2 k2),zd YT,za (Bool.eq_false_iff.2 k3),zd YT,za (Bool.eq_false_iff.2 k4),zc (by rfl),oc]
        simp only[zj,T.zg,zi,z7]
abbrev sd(S D:fa):fa:=pL S.1 S.2.1 S.2.2.1 S.2.2.2.1 S.2.2.2.2.1 S.2.2.2.2.2 D
def vE:List zf->fa->Nat->(Nat×Int)⊕fa
 | [],S,_=>.inr S
 | line::r,S,k=>if(wq S.2.2.1.length line).1=0 then vE r (sd S (wq S.2.2.1.length line).2) (k+1)else .inl (k+1,(wq S.2.2.1.length line).1)
def H0(S:fa):Form:=(S.1,(S.2.1,(S.2.2.1,(S.2.2.2.1,(S.2.2.2.2.1,(S.2.2.2.2.2,()))))))
def noF:Form:=(([]:List Switch),(([]:List Param),(([]:List xc),(([]:List Field),(([]:List qV),(([]:List Check),()))))))
def Wy(s:zf):Form×Int×Int:=if 16384<s.length then(noF,(0,3))else match vE (uK 10 s) xj 0 with
 | .inl (k,e)=>(noF,((k:Int),e))
 | .inr S=>if Jy (H0 S)=true then(H0 S,(0,0))else(noF,(0,2))
structure GS(S:fa):Prop where
 s:∀ x∈S.1,x.1.length<=600
 p:∀ x∈S.2.1,x.1.length<=600/\jo 100 x.2.1
 g:∀ x∈S.2.2.1,x.1.length<=600/\x.2.1.length<=600
 d:∀ x∈S.2.2.2.1,x.1.length<=600
 r:∀ x∈S.2.2.2.2.1,x.1.length<=600/\x.2.2.1.length<=600/\jD x.2.2.2.1/\jD x.2.2.2.2.1
 c:∀ x∈S.2.2.2.2.2,x.1.length<=600/\jD x.2.2.2.1/\jD x.2.2.2.2.1
def BO(S:fa):Nat:=S.1.length+S.2.1.length+S.2.2.1.length+S.2.2.2.1.length+S.2.2.2.2.1.length+S.2.2.2.2.2.length
theorem OG:GS xj:=⟨(λ_ h=>by cases h),(λ_ h=>by cases h),(λ_ h=>by cases h),(λ_ h=>by cases h),(λ_ h=>by cases h),(λ_ h=>by cases h)⟩
theorem Re{S D:fa}(h:GS S)(k:GS D):GS (sd S D) :=
 ⟨λx hx=>(List.mem_append.1 hx).elim (h.s x) (k.s x),λx hx=>(List.mem_append.1 hx).elim (h.p x) (k.p x),λx hx=>(List.mem_append.1 hx).elim (h.g x) (k.g x),
  λx hx=>(List.mem_append.1 hx).elim (h.d x) (k.d x),λx hx=>(List.mem_append.1 hx).elim (h.r x) (k.r x),λx hx=>(List.mem_append.1 hx).elim (h.c x) (k.c x)⟩
theorem Be(S D:fa):BO (sd S D)=BO S+BO D:=by
 unfold BO sd pL
 simp only[List.length_append]
 omega
theorem Zn{s:zf}(h:zJ s=true):s.length<=600:=by have:=(dm h).1; omega
theorem Bm(w:List zf)(n:Nat):(Wn w n).1.length<=600:=by
 unfold Wn
 split
 ·exact Nat.zero_le _
 ·split
  ·rename_i h; exact Zn h.2.2
  ·exact Nat.zero_le _
theorem Oh{s:zf}{r:Rat}(h:rZ s=some r):jo 100 r:=by
 have:Iz s=some r:=by
  unfold Iz
  unfold rZ at h
  split at h
  ·cases h
  ·rename_i c
   rw[if_neg c]
   cases q:oF s with
   | none=>rw[q]at h; cases h
   | some p=>rw[q]at h; exact h
 have h2:=Ox this
 exact⟨h2.1,h2.2.1,by have:=h2.2.2.1; omega,by have:=h2.2.2.2; omega⟩
theorem U6(s:zf):jD (qI s).1/\jD (qI s).2.1:=by
 have hz:jD zE:=Hp (by decide) sQ.1
 unfold qI
 split
 ·exact⟨hz,hz⟩
 ·split
  ·exact⟨hz,hz⟩
  ·exact⟨tu _,tu _⟩
theorem iK{α:Type}{x y:α}{p:α->Prop}(h:p x)(hy:y∈[x]):p y:=by rw[List.mem_singleton.1 hy]; exact h
theorem Xa(np:Nat)(line:zf):GS (wq np line).2/\BO (wq np line).2<=1:=by
 have hz:GS xj/\BO xj<=1:=⟨OG,by decide⟩
 unfold wq
 generalize w7 32 [] (wm line [58]).1=l
 generalize (wm line [58]).2.1=rest
 generalize (wm line [58]).2.2=colon
 cases l with
 | nil=>cases colon; exact hz; exact hz
 | cons w r =>
  rw[wV]
  split
  ·exact hz
  ·split
   ·split
    ·unfold YK
     split
     ·rename_i h
      exact⟨⟨(λ_ h=>by cases h),(λ_ h=>by cases h),(λ_ h=>by cases h),(λ_ h=>by cases h),(λ_ h=>by cases h),λy hy=>iK (p:=λx:Check=>x.1.length<=600/\jD x.2.2.2.1/\jD x.2.2.2.2.1) ⟨Zn h.2.1,U6 rest⟩ hy⟩,Nat.le_refl 1⟩
     ·exact hz
    ·split
     ·unfold Xp
      split
      ·rename_i h
       split
       ·exact hz
       ·exact⟨⟨(λ_ h=>by cases h),(λ_ h=>by cases h),(λ_ h=>by cases h),(λ_ h=>by cases h),λy hy=>iK (p:=λx:qV=>x.1.length<=600/\x.2.2.1.length<=600/\jD x.2.2.2.1/\jD x.2.2.2.2.1) ⟨Zn h.2.2.1,Bm _ _,U6 rest⟩ hy,(λ_ h=>by cases h)⟩,Nat.le_refl 1⟩
      ·exact hz
     ·exact hz
   ·split
    ·unfold Wx
     split
     ·rename_i h
      exact⟨⟨λy hy=>iK (p:=λx:Switch=>x.1.length<=600) (Zn h.2.1) hy,(λ_ h=>by cases h),(λ_ h=>by cases h),(λ_ h=>by cases h),(λ_ h=>by cases h),(λ_ h=>by cases h)⟩,Nat.le_refl 1⟩
     ·exact hz
    ·split
     ·unfold ZF
      split
      ·rename_i h
       cases hd:rZ (wd (w::r) 2)with
       | none=>exact hz
       | some v=>exact⟨⟨(λ_ h=>by cases h),λy hy=>iK (p:=λx:Param=>x.1.length<=600/\jo 100 x.2.1) ⟨Zn h.2,Oh hd⟩ hy,(λ_ h=>by cases h),(λ_ h=>by cases h),(λ_ h=>by cases h),(λ_ h=>by cases h)⟩,Nat.le_refl 1⟩
      ·exact hz
     ·split
      ·unfold sS
       split
       ·rename_i h
        exact⟨⟨(λ_ h=>by cases h),(λ_ h=>by cases h),λy hy=>iK (p:=λx:xc=>x.1.length<=600/\x.2.1.length<=600) ⟨Zn h.2.1,Bm _ _⟩ hy,(λ_ h=>by cases h),(λ_ h=>by cases h),(λ_ h=>by cases h)⟩,Nat.le_refl 1⟩
       ·exact hz
      ·split
       ·unfold Q3
        split
        ·rename_i h
         cases hd:il (kl (w::r))with
         | none=>exact hz
         | some v=>exact⟨⟨(λ_ h=>by cases h),(λ_ h=>by cases h),(λ_ h=>by cases h),λy hy=>iK (p:=λx:Field=>x.1.length<=600) (Zn h.2.1) hy,(λ_ h=>by cases h),(λ_ h=>by cases h)⟩,Nat.le_refl 1⟩
        ·exact hz
       ·exact hz
theorem sR:∀ (ls:List zf) (S:fa) (k:Nat) (S':fa),vE ls S k=.inr S'->GS S->GS S'/\BO S'<=BO S+ls.length
 | [],S,k,S',h,hg=>by
  injection h with h
  subst h
  exact⟨hg,Nat.le_refl _⟩
 | line::r,S,k,S',h,hg=>by
  unfold vE at h
  split at h
  ·obtain⟨a1,a2⟩:=Xa S.2.2.1.length line
   have:=sR r _ _ S' h (Re hg a1)
   rw[Be]at this
   exact⟨this.1,by have:=this.2; rw[List.length_cons]; omega⟩
  ·cases h
theorem WX(c:UInt8):∀ s:zf,(uK c s).length<=s.length+1
 | []=>Nat.le_refl _
 | b::r=>by
  have:=WX c r
  unfold uK
  split
  ·rw[List.length_cons,List.length_cons]; omega
  ·cases h:uK c r with
   | nil=>simp[CI]
   | cons x y=>rw[h]at this; simp only[CI,List.length_cons]at *; omega
theorem Hj(c:UInt8):∀ (s:zf),∀ l∈uK c s,l.length<=s.length
 | [],l,h=>by rw[show uK c []=[[]]from rfl]at h; rw[List.mem_singleton.1 h]; exact Nat.le_refl _
 | b::r,l,h=>by
  have ih:=Hj c r
  unfold uK at h
  split at h
  ·rcases List.mem_cons.1 h with rfl | h
   ·exact Nat.zero_le _
   ·have:=ih l h; rw[List.length_cons]; omega
  ·cases q:uK c r with
   | nil=>rw[q]at h; rw[List.mem_singleton.1 (show l∈[[b]]from h)]; simp
   | cons x y =>
    rw[q]at h ih
    rcases List.mem_cons.1 (show l∈(b::x)::y from h)with rfl | h
    ·have:=ih x List.mem_cons_self; rw[List.length_cons,List.length_cons]; omega
    ·have:=ih l (List.mem_cons_of_mem _ h); rw[List.length_cons]; omega
theorem PV{S:fa}(h:BO S<=1000000):SmS S.1 S.2.1 S.2.2.1 S.2.2.2.1 S.2.2.2.2.1 S.2.2.2.2.2:=by
 unfold BO at h
 exact⟨by omega,by omega,by omega,by omega,by omega,by omega⟩
theorem LM{α:Type}(l:List α):List.drop (0:Nat) (List.take ((0:Nat)+l.length) l)=l:=by rw[Nat.zero_add,List.take_length,List.drop_zero]
def Oy(S:fa):List Check×List Check×List qV×List qV×List Switch×List Switch×List Param×List Param×List xc×List xc×List Field×List Field:=([],(S.2.2.2.2.2,([],(S.2.2.2.2.1,([],(S.1,([],(S.2.1,([],(S.2.2.1,([],S.2.2.2.1)))))))))))
theorem dT(s:zf)(hF:∀ S,vE (uK 10 s) xj 0=.inr S->FS (H0 S)):(ki s).run=some (Wy s):=by
 unfold ki Wy
 by_cases hs:16384<s.length
 ·rw[if_pos hs,zc (decide_eq_true (by omega)),z7]
  rfl
 ·rw[if_neg hs,za (decide_eq_false (by omega))]
  have fI:(strings_Split s [10]).run=some (uK 10 s):=by
   unfold strings_Split
   rw[zd ⟨by omega,rfl⟩,z7]
   rfl
  rw[z6 fI]
  have hln:=WX 10 s
  have hmm:=Hj 10 s
  generalize uK 10 s=ls at hln hmm hF ⊢
  have key:∀ (m k:Nat) (S:fa),k+m=ls.length->BO S<=k->∃ R,(gZ ls (ls.length:Int) ((k:Int),((),((),Oy S)))).run=some R /\
    (match vE (ls.drop k) S k with
     | .inl (n,e)=>∃ Z,R=.inr ((n:Int),(e,(noF,Z)))
     | .inr S'=>R=.inl ((),((),Oy S'))):=by
   intro m
   induction m with
   | zero =>
    intro k S hk ht
    have:k=ls.length:=by omega
    subst this
    rw[List.drop_length]
    refine⟨.inl ((),((),Oy S)),xw ?_,rfl⟩
    unfold uZ Oy
    dsimp only
    rw[za (pE _)]
    simp only[zj,T.zg,zi,z7]
   | succ m ih =>
    intro k S hk ht
    have h1:k<ls.length:=by omega
    have hd:=List.drop_eq_getElem_cons h1
    obtain⟨D,g1,g2⟩:=Ic ls[k] (by have:=hmm _ (List.getElem_mem h1); omega) S.1 S.2.1 S.2.2.1 S.2.2.2.1 S.2.2.2.2.1 S.2.2.2.2.2 (PV (by omega))
    rw[hd]
    unfold vE
    by_cases c:(wq S.2.2.1.length ls[k]).1=0
    ·rw[if_pos c]
     have hD:=g2 c
     subst hD
     obtain⟨a1,a2⟩:=Xa S.2.2.1.length ls[k]
     obtain⟨R,r1,r2⟩:=ih (k+1) (sd S (wq S.2.2.1.length ls[k]).2) (by omega) (by rw[Be]; omega)
     refine⟨R,?_,r2⟩
     refine(j6 (s':=(((k+1:Nat):Int),((),((),Oy (sd S (wq S.2.2.1.length ls[k]).2))))) ?_).trans r1
     unfold uZ Oy
     dsimp only
     rw[zc (ma h1),zd (vC h1),oR h1]
     simp only[zj,T.zg,zi]
     rw[z6 g1,c]
     unfold pL
     dsimp only
     rw[za (by rfl)]
     simp only[zj,T.zg,zi,z7]
     rw[K5 k _ h1 (by omega)]
     rfl
    ·rw[if_neg c]
     refine⟨.inr (((k+1:Nat):Int),((wq S.2.2.1.length ls[k]).1,(noF,((),Oy (sd S D))))),xw ?_,_,rfl⟩
     ·unfold uZ Oy
      dsimp only
      rw[zc (ma h1),zd (vC h1),oR h1]
      simp only[zj,T.zg,zi]
      rw[z6 g1]
      unfold pL
      dsimp only
      rw[zc (by simpa using c)]
      simp only[zj,T.zg,zi,z7]
      rw[K5 k _ h1 (by omega)]
      rfl
  obtain⟨R,r1,r2⟩:=key ls.length 0 xj (by omega) (Nat.le_refl _)
  rw[List.drop_zero]at r2
  have r1:(gZ ls (ls.length:Int) ((0:Int),((),((),(([]:List Check),(([]:List Check),(([]:List qV),(([]:List qV),(([]:List Switch),(([]:List Switch),(([]:List Param),(([]:List Param),(([]:List xc),(([]:List xc),(([]:List Field),([]:List Field)))))))))))))))).run=some R:=r1
  simp only[zj,T.zg,zi]
  rw[z6 r1]
  cases q:vE ls xj 0 with
  | inl p =>
   obtain⟨n,e⟩:=p
   rw[q]at r2
   obtain⟨Z,rfl⟩:=r2
   rfl
  | inr S =>
   rw[q]at r2
   dsimp only at r2
   rw[r2,Sum.elim_inl]
   unfold Oy
   dsimp only
   simp only[LM,zj,T.zg,zi]
   have hI:(cu (S.1,(S.2.1,(S.2.2.1,(S.2.2.2.1,(S.2.2.2.2.1,(S.2.2.2.2.2,()))))))).run=some (Jy (H0 S)):=n0 (H0 S) (hF S q)
   rw[z6 hI]
   cases Jy (H0 S)with
   | false=>rw[zc (by rfl),z7]; rfl
   | true =>
    rw[za (by rfl)]
    simp only[zj,T.zg,zi,z7]
    rfl
end Go.AM.Lf
