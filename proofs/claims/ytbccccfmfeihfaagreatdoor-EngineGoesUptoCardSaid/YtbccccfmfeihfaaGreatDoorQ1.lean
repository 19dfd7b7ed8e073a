/-
  Plain laws of the lifted program, part 1.
-/
import Derived.Test.YtbccccfmfeihfaaGreatDoorLf1
import Derived.Test.YtbccccfmfeihfaaGreatDoorAmA
import Derived.Test.YtbccccfmfeihfaaGreatDoorAmD
import Derived.KernelRfl
import Derived.Test.YtbccccfmfeihfaaGreatDoorQ0
set_option linter.unusedVariables false
open List renaming getD_eq_getElem?_getD -> zA, mem_singleton -> zE, mem_of_mem_take -> zF, mem_append -> zG, length_take -> zH, mem_or_eq_of_mem_set -> zI, getElem?_eq_getElem -> zJ, take -> zK, take_of_length_le -> zL, mem_cons_of_mem -> zM, getElem_append_left -> zN, getElem_mem -> zO, drop -> zQ, mem_cons -> zR, mem_cons_self -> zV, contains_eq_mem -> zW, getElem_of_mem -> zX, drop_eq_getElem_cons -> zY, pairwise_iff_getElem -> zZ, getElem_set -> qA, drop_of_length_le -> qC, map_append -> qD, countP_le_length -> qE, mem_append_right -> qF, length -> qI, mem_append_left -> qJ, replicate -> qK
open Nat renaming le_trans -> Y, zero_le -> U, le_refl -> zT
open Int renaming eq_ofNat_of_zero_le -> M, le_trans -> zP, toNat_natCast -> zS, le_of_lt -> qB, le_refl -> qH, toNat -> qM
open Bool renaming and_eq_true -> zU, and_eq_true_iff -> qG
open And renaming intro -> qL
open Go.AM.T (HF gD lC qk sM vG vI vJ vY vt vx wU wg xe xj xl xv z8 za zc zd zg zh)
namespace Go.AM.Lf
open T PL
theorem ga{α:Type}{P:α->Prop}{l:List α}(h:∀ x∈l,P x){a:α}(ha:P a):∀ x∈l++[a],P x:=λx N=>by
 rcases zG.1 N with k | k
 ·exact h x k
 ·rw[zE.1 k]; exact ha
def zcv(l:List Switch):Prop:=∀ x∈l,x.1.length<=KK
theorem zcw(l:List Switch)(x:Switch)(h:zcv l)(N:x.1.length<=KK):zcv (l++[x]):=ga h N
def zcn(l:List Param):Prop:=∀ x∈l,x.1.length<=KK/\rg x.2.1/\rl x.2.1<=1700
theorem zco(l:List Param)(x:Param)(h:zcn l)(N:x.1.length<=KK/\rg x.2.1/\rl x.2.1<=1700):zcn (l++[x]):=ga h N
def zcp(l:List eY):Prop:=∀ x∈l,x.1.length<=KK/\x.2.1.length<=KK
theorem zcq(l:List eY)(x:eY)(h:zcp l)(N:x.1.length<=KK/\x.2.1.length<=KK):zcp (l++[x]):=ga h N
def zci(l:List Field):Prop:=∀ x∈l,x.1.length<=KK
theorem zcj(l:List Field)(x:Field)(h:zci l)(N:x.1.length<=KK):zci (l++[x]):=ga h N
def zct(l:List eC):Prop:=∀ x∈l,x.1.length<=KK/\x.2.2.1.length<=KK/\EW KK x.2.2.2.1/\EW KK x.2.2.2.2.1
theorem zcu(l:List eC)(x:eC)(h:zct l)(N:x.1.length<=KK/\x.2.2.1.length<=KK/\EW KK x.2.2.2.1/\EW KK x.2.2.2.2.1):zct (l++[x]):=ga h N
def zcf(l:List Check):Prop:=∀ x∈l,x.1.length<=KK/\EW KK x.2.2.2.1/\EW KK x.2.2.2.2.1
theorem zcg(l:List Check)(x:Check)(h:zcf l)(N:x.1.length<=KK/\EW KK x.2.2.2.1/\EW KK x.2.2.2.2.1):zcf (l++[x]):=ga h N
def E6(b:List Switch)(c:List Param)(d:List eY)(e:List Field)(f:List eC)(g:List Check):Prop:=zcv b/\zcn c/\zcp d/\zci e/\zct f/\zcf g
def c6(b:List Switch)(c:List Param)(d:List eY)(e:List Field)(f:List eC)(g:List Check):Nat:=b.length+c.length+d.length+e.length+f.length+g.length
theorem got{p:Prop} (h:p:=by
 intros
 repeat' (with_reducible first
  | refine zd ?_
  | refine zg (λ_ => ?_) (λ_ => ?_)
  | refine za ?_
  | refine zh ?_
  | refine vG ?_ ?_
  | refine qk ?_ ?_
  | refine vJ ?_ ?_
  | refine vt ?_ ?_
  | refine zc ?_ ?_
  | refine vY (λ_ _ => ?_) (λ_ _ => ?_)
  | refine z8 ?_ (λ_ _ => ?_)
  | refine vI ?_ (λ_ _ => ?_)
  | refine xe ?_
  | dsimp only)
 all_goals grind [xf,uM,dH,jf,vV,zu,jb,E6,c6,List.length_append,List.length_singleton,G9,V7,zcw,zco,zcq,zcj,zcu,zcg]):p:=h
section
variable (a:List q9) (u:Unit) (b:List Switch) (c:List Param) (d:List eY) (e:List Field) (f:List eC) (g:List Check)
theorem wd1{l:List q9}(h:wd l)(j:Int)(h0:0<=j)(h1:j<l.length):1<=(nth l j (zb .str)).length/\(nth l j (zb .str)).length<=20000:=h _ (wa h0 h1)
variable (s:q9)
instance:Sp (cu a u b c d e f g) (E6 b c d e f g/\c6 b c d e f g<=20000/\wd a) (λr=>E6 r.2.2.1 r.2.2.2.1 r.2.2.2.2.1 r.2.2.2.2.2.1 r.2.2.2.2.2.2.1 r.2.2.2.2.2.2.2/\c6 r.2.2.1 r.2.2.2.1 r.2.2.2.2.1 r.2.2.2.2.2.1 r.2.2.2.2.2.2.1 r.2.2.2.2.2.2.2<=c6 b c d e f g+1):=⟨λh=>by
 have h1:=wd1 h.2.2
 unfold cu
 exact got⟩
instance:Sp (da a u b c d e f g) (E6 b c d e f g/\c6 b c d e f g<=20000/\wd a) (λr=>E6 r.2.2.1 r.2.2.2.1 r.2.2.2.2.1 r.2.2.2.2.2.1 r.2.2.2.2.2.2.1 r.2.2.2.2.2.2.2/\c6 r.2.2.1 r.2.2.2.1 r.2.2.2.2.1 r.2.2.2.2.2.1 r.2.2.2.2.2.2.1 r.2.2.2.2.2.2.2<=c6 b c d e f g+1):=⟨λh=>by
 have h1:=wd1 h.2.2
 unfold da
 exact got⟩
instance:Sp (cv a u b c d e f g) (E6 b c d e f g/\c6 b c d e f g<=20000/\wd a) (λr=>E6 r.2.2.1 r.2.2.2.1 r.2.2.2.2.1 r.2.2.2.2.2.1 r.2.2.2.2.2.2.1 r.2.2.2.2.2.2.2/\c6 r.2.2.1 r.2.2.2.1 r.2.2.2.2.1 r.2.2.2.2.2.1 r.2.2.2.2.2.2.1 r.2.2.2.2.2.2.2<=c6 b c d e f g+1):=⟨λh=>by
 have h1:=wd1 h.2.2
 unfold cv
 exact got⟩
set_option maxHeartbeats 2000000 in
instance:Sp (db a u b c d e f g) (E6 b c d e f g/\c6 b c d e f g<=20000/\wd a) (λr=>E6 r.2.2.1 r.2.2.2.1 r.2.2.2.2.1 r.2.2.2.2.2.1 r.2.2.2.2.2.2.1 r.2.2.2.2.2.2.2/\c6 r.2.2.1 r.2.2.2.1 r.2.2.2.2.1 r.2.2.2.2.2.1 r.2.2.2.2.2.2.1 r.2.2.2.2.2.2.2<=c6 b c d e f g+1):=⟨λh=>by
 have h1:=wd1 h.2.2
 unfold db
 exact got⟩
instance:Sp (br a s u b c d e f g) (E6 b c d e f g/\c6 b c d e f g<=20000/\wd a/\s.length<=20000) (λr=>E6 r.2.2.1 r.2.2.2.1 r.2.2.2.2.1 r.2.2.2.2.2.1 r.2.2.2.2.2.2.1 r.2.2.2.2.2.2.2/\c6 r.2.2.1 r.2.2.2.1 r.2.2.2.2.1 r.2.2.2.2.2.1 r.2.2.2.2.2.2.1 r.2.2.2.2.2.2.2<=c6 b c d e f g+1):=⟨λh=>by
 have h1:=wd1 h.2.2.1
 unfold br
 exact got⟩
instance:Sp (cx a s u b c d e f g) (E6 b c d e f g/\c6 b c d e f g<=20000/\wd a/\s.length<=20000) (λr=>E6 r.2.2.1 r.2.2.2.1 r.2.2.2.2.1 r.2.2.2.2.2.1 r.2.2.2.2.2.2.1 r.2.2.2.2.2.2.2/\c6 r.2.2.1 r.2.2.2.1 r.2.2.2.2.1 r.2.2.2.2.2.1 r.2.2.2.2.2.2.1 r.2.2.2.2.2.2.2<=c6 b c d e f g+1):=⟨λh=>by
 have h1:=wd1 h.2.2.1
 unfold cx
 exact got⟩
end
open T PL
instance (a:q9):Sp (strings_Cut a [58]) (a.length<=1000000000) (λr=>r.1.length+r.2.1.length<=a.length/\(a.length=0->r.2.2=false)):=⟨λh=>by
 obtain⟨r,h1,X⟩:=T.lC.1 ((inferInstance:Sp (strings_Cut a [58]) (a.length<=1000000000) (λr=>r.1.length+r.2.1.length<=a.length)).sp h)
 refine gD h1 ⟨X,λe => ?_⟩
 obtain rfl:=List.eq_nil_of_length_eq_zero e
 unfold strings_Cut at h1
 rw[xj (qp),wg]at h1
 cases h1; rfl⟩
theorem zo8{p:Prop} (h:p:=by
 intros
 repeat' (with_reducible first
  | refine zd ?_
  | refine zg (λ_ => ?_) (λ_ => ?_)
  | refine za ?_
  | refine zh ?_
  | refine vG ?_ ?_
  | refine qk ?_ ?_
  | refine vJ ?_ ?_
  | refine vt ?_ ?_
  | refine zc ?_ ?_
  | refine vY (λ_ _ => ?_) (λ_ _ => ?_)
  | refine z8 ?_ (λ_ _ => ?_)
  | refine vI ?_ (λ_ _ => ?_)
  | refine xe ?_
  | dsimp only)
 all_goals grind [xf]):p:=h
set_option maxHeartbeats 2000000 in
instance (s:q9) (u:Unit) (b:List Switch) (c:List Param) (d:List eY) (e:List Field) (f:List eC) (g:List Check):Sp (pB s u b c d e f g) (E6 b c d e f g/\c6 b c d e f g<=20000/\s.length<=20000)
  (λr=>E6 r.2.2.1 r.2.2.2.1 r.2.2.2.2.1 r.2.2.2.2.2.1 r.2.2.2.2.2.2.1 r.2.2.2.2.2.2.2/\c6 r.2.2.1 r.2.2.2.1 r.2.2.2.2.1 r.2.2.2.2.2.1 r.2.2.2.2.2.2.1 r.2.2.2.2.2.2.2<=c6 b c d e f g+1/\(s.length=0->c6 r.2.2.1 r.2.2.2.1 r.2.2.2.2.1 r.2.2.2.2.2.1 r.2.2.2.2.2.2.1 r.2.2.2.2.2.2.2=c6 b c d e f g)):=⟨λh=>by
 have h1 := @wd1
 unfold pB
 exact zo8⟩
def Z0(l:List q9):Nat:=(l.map λs=>s.length+1).sum
theorem IL(a b:List q9):Z0 (a++b)=Z0 a+Z0 b:=by unfold Z0; rw[qD,List.sum_append]
theorem z4y(c:UInt8):∀ s:q9,Z0 (lF c s)=s.length+1/\∀ x∈lF c s,x.length<=s.length:=by
 intro s
 induction s with
 | nil=>exact⟨rfl,by simp[lF]⟩
 | cons b s ih =>
  unfold lF
  split
  ·refine⟨by have:=ih.1; unfold Z0 at *; simp; omega,λx N => ?_⟩
   rcases zR.1 N with rfl | N
   ·simp
   ·have:=ih.2 x N; simp; omega
  ·revert ih
   generalize lF c s=l
   intro ih
   cases l with
   | nil=>have:=ih.1; simp[Z0]at this
   | cons y l =>
    refine⟨by have:=ih.1; unfold Z0 zam at *; simp at *; omega,λx N => ?_⟩
    rcases zR.1 N with rfl | N
    ·have:=ih.2 y zV; simp; omega
    ·have:=ih.2 x (zM _ N); simp; omega
instance (s:q9):Sp (strings_Split s [10]) (s.length<=1000000) (λr=>Z0 r=s.length+1/\(∀ x∈r,x.length<=s.length)/\r.length<=s.length+1):=⟨λh=>by
 unfold strings_Split
 have h1:=z4y 10 s
 refine zc ⟨Z,rfl⟩ (zd ⟨h1.1,h1.2,?_⟩)
 have:∀ l:List q9,l.length<=Z0 l:=λl=>by
  induction l with
  | nil=>simp
  | cons a l ih=>unfold Z0 at *; simp; omega
 have:=this (lF 10 s)
 show(lF 10 s).length<=_
 omega⟩
open T PL
abbrev F0:Form:=([],[],[],[],[],[],())
def F9(f:Form):Prop:=FW 8200 f/\∀ x∈f.2.1,rl x.2.1<=1700
theorem zaQ{b:List Switch}{c:List Param}{d:List eY}{e:List Field}{f:List eC}{g:List Check}(h:E6 b c d e f g)(k:c6 b c d e f g<=8200):F9 (b,c,d,e,f,g,()):=by
 obtain⟨h1,X,h3,h4,h5,h6⟩:=h
 unfold c6 at k
 unfold F9 FW
 dsimp only
 exact⟨⟨⟨Z,h1⟩,⟨Z,λx N=>⟨(X x N).1,(X x N).2.1,Y (X x N).2.2 (xo)⟩⟩,⟨Z,h3⟩,⟨Z,h4⟩,⟨Z,h5⟩,Z,h6⟩,λx N=>(X x N).2.2⟩
theorem E60:E6 [] [] [] [] [] []:=⟨nofun,nofun,nofun,nofun,nofun,nofun⟩
theorem z0a(l:List q9)(i:Int)(h0:0<=i)(h1:i<l.length):Z0 (l.take (i+1).toNat)=Z0 (l.take i.toNat)+((nth l i (zb .str)).length+1):=by
 rw[ef l i (zb .str) h0 h1,IL]; rfl
theorem RX(l:List q9)(n:Nat):Z0 (l.take n)<=Z0 l:=by
 have:=IL (l.take n) (l.drop n)
 rw[List.take_append_drop]at this
 omega
theorem z7e{p:Prop} (h:p:=by
 intros
 repeat' (with_reducible first
  | refine zd ?_
  | refine zg (λ_ => ?_) (λ_ => ?_)
  | refine za ?_
  | refine zh ?_
  | refine vG ?_ ?_
  | refine qk ?_ ?_
  | refine vJ ?_ ?_
  | refine vt ?_ ?_
  | refine zc ?_ ?_
  | refine vY (λ_ _ => ?_) (λ_ _ => ?_)
  | refine z8 ?_ (λ_ _ => ?_)
  | refine vI ?_ (λ_ _ => ?_)
  | refine xe ?_
  | dsimp only)
 all_goals grind [xf,zu,jb,yO]):p:=h
instance (u:List q9) (s0):Sp (sq u (u.length:Int) s0) (s0=(0,(),(),[],[],[],[],[],[],[],[],[],[],[],[])/\Z0 u<=16385/\(∀ x∈u,x.length<=20000)/\u.length<=100000)
  (λz=>match z with | .inl (_,_,_,n,_,o,_,p,_,q,_,r,_,s)=>E6 p q r s o n/\c6 p q r s o n<=8200 | .inr z=>z.2.2.1=F0):=⟨λh=>by
 obtain⟨rfl,h1,X,h3⟩:=h
 unfold sq
 refine eX u (zb .str) (λ(m,_)=>m) (λx=>x.length<=20000) (λ_=>True) (λ(m,_,_,_,n,_,o,_,p,_,q,_,r,_,s)=>0<=m/\E6 p q r s o n/\2*c6 p q r s o n<=Z0 (u.take m.toNat)) X ⟨rfl,Z,E60,U _⟩ (λ⟨m,y,z,a,n,b,o,c,p,d,q,e,r,f,s⟩ x ⟨h0,h4,h5⟩ N he _ hm => ?_) λ⟨m,y,z,a,n,b,o,c,p,d,q,e,r,f,s⟩ ⟨h0,h4,h5⟩ hm _ => ?_
 ·have h6:=z0a u m h0 hm
  have h7:=RX u m.toNat
  have h8:=he▸N
  dsimp only at hm
  clear N he X
  unfold ll
  exact z7e
 ·have h7:=RX u m.toNat
  dsimp only at hm
  unfold ll
  exact z7e⟩
theorem zeL(P:Form->Prop)(h0:P F0)(h1:∀ {b c d e f g},E6 b c d e f g->c6 b c d e f g<=8200->P (b,c,d,e,f,g,()))(s:q9)(hv:∀ {f},P f->FW 8200 f):(nL s).wp (λr=>P r.1):=by
 unfold nL oZ
 refine zg (λ_=>zd h0) λR=>z8 (by have:=yT R; omega) λu hu => ?_
 have R:=yT R
 have X:Z0 u<=16385/\(∀ x∈u,x.length<=20000)/\u.length<=100000:=⟨Z,λx N=>by have:=hu.2.1 x N; omega,Z⟩
 clear hu
 exact z7e
instance (s:q9):Sp (nL s) True (λr=>F9 r.1):=⟨λ_=>zeL F9 (zaQ E60 (by simp[c6])) zaQ s And.left⟩
instance (f:Form):Sp (Q1 f) (FW 8200 f) (λr=>F9 r):=⟨λh=>by unfold Q1; exact z7e⟩
open T PL
def tg(l:List Term):Prop:=∀ t∈l,rg t.2.1
def tb:List Term->Nat
 | []=>0
 | t::l=>max (rl t.2.1) (tb l)
theorem Wf{l:List Term}{t:Term}(h:t∈l):rl t.2.1<=tb l:=by
 induction l with
 | nil=>cases h
 | cons a l ih =>
  unfold tb
  rcases zR.1 h with rfl | h
  ·omega
  ·have:=ih h; omega
theorem zf4(l:List Term)(t:Term):tb (l++[t])=max (tb l) (rl t.2.1):=by
 induction l with
 | nil=>simp[tb]
 | cons a l ih=>rw[List.cons_append,tb,tb,ih]; omega
theorem zf5(l:List Term)(t:Term)(h:tg l)(k:rg t.2.1):tg (l++[t]):=ga h k
theorem Bn(l:List Term)(h:tg l)(i:Int)(h0:0<=i)(h1:i<l.length):rg (nth l i (zb qq)).2.1/\rl (nth l i (zb qq)).2.1<=tb l:=⟨h _ (wa h0 h1),Wf (wa h0 h1)⟩
theorem zn8(l:List Term)(h:tg l)(h1:1<=l.length):tg (uI (e:=qq) 1 (l.length:Int) l)/\tb (uI (e:=qq) 1 (l.length:Int) l)<=tb l/\(uI (e:=qq) 1 (l.length:Int) l).length+1=l.length:=by
 have e:uI (e:=qq) 1 (l.length:Int) l=l.tail:=by unfold uI; simp
 rw[e]
 cases l with
 | nil=>simp at h1
 | cons a l=>exact⟨λt ht=>h t (zM _ ht),by rw[tb]; simp; omega,qp⟩
theorem tg0:tg []/\tb []=0:=⟨nofun,rfl⟩
def cg(c:vR):Prop:=tg c.2.1/\rg c.2.2.1
def cb(c:vR):Nat:=max (tb c.2.1) (rl c.2.2.1)
theorem W9:rg (false,[],[],())/\rl (false,[],[],())=0:=⟨⟨wE,wE⟩,by simp[rl]⟩
theorem Fx{p:Prop} (h:p:=by
 intros
 repeat' (with_reducible first
  | refine zd ?_
  | refine zg (λ_ => ?_) (λ_ => ?_)
  | refine za ?_
  | refine zh ?_
  | refine vG ?_ ?_
  | refine qk ?_ ?_
  | refine vJ ?_ ?_
  | refine vt ?_ ?_
  | refine zc ?_ ?_
  | refine vY (λ_ _ => ?_) (λ_ _ => ?_)
  | refine z8 ?_ (λ_ _ => ?_)
  | refine vI ?_ (λ_ _ => ?_)
  | refine xe ?_
  | dsimp only)
 all_goals grind [xf,jf,vV,zu,jb,yO,zf4,zf5,tg0,cg,cb,W9,V7,List.length_append,List.length_singleton,Er,Bz]):p:=h
set_option maxHeartbeats 4000000 in
instance (s:List Term×List Term×(Int×Bool×List Int×List Int×Unit)×(Int×Bool×List Int×List Int×Unit)×List Term×List Term):Sp (Vz s) (tg s.1/\tg s.2.1/\s.2.2.2.2.2=[]/\s.1.length+s.2.1.length<=1000000/\tb s.1+tb s.2.1<=10000000)
  (λr=>r.2.1=s.2.2.2.1/\tg r.2.2.2/\tb r.2.2.2<=tb s.1+tb s.2.1+3/\r.2.2.2.length<=s.1.length+s.2.1.length):=⟨λh=>by
 unfold Vz
 refine vx (λ(b,a,_,o,_,d)=>o=s.2.2.2.1/\tg b/\tg a/\tg d/\tb b<=tb s.1/\tb a<=tb s.2.1/\tb d<=tb s.1+tb s.2.1+3/\a.length+b.length+d.length<=s.1.length+s.2.1.length) (λ(b,a,_)=>a.length+b.length) (by grind [tg0]) λ⟨b,a,n,o,c,d⟩ hs => ?_
 have h1:=h.2.2.2
 clear h
 generalize s.2.2.2.1=q at *
 generalize tb s.1=h2 at *
 generalize tb s.2.1=zB at *
 generalize s.1.length=X' at *
 generalize s.2.1.length=Y' at *
 have ka:=zn8 a hs.2.2.1
 have kb:=zn8 b hs.2.1
 have na:=Bn a hs.2.2.1 0 (Z)
 have nb:=Bn b hs.2.1 0 (Z)
 unfold VA
 dsimp only at *
 generalize uI (e:=qq) 1 (a.length:Int) a=a' at *
 generalize uI (e:=qq) 1 (b.length:Int) b=b' at *
 generalize nth a 0 (zb qq)=x at *
 generalize nth b 0 (zb qq)=y at *
 exact Fx⟩
instance (a b:vR):Sp (Wo a b) (cg a/\cg b/\a.2.1.length+b.2.1.length<=1000000/\cb a+cb b<=10000000) (λr=>cg r/\cb r<=cb a+cb b+3/\r.2.1.length<=a.2.1.length+b.2.1.length):=⟨λh=>by unfold Wo oZ; exact Fx⟩
instance (k:Lf.Rat) (l:List Term) (s:Int×(Int×Bool×List Int×List Int×Unit)×(Int×Bool×List Int×List Int×Unit)×List Term×List Term):Sp (ZJ k l (l.length:Int) s) (s.1=0/\tg l/\rg k/\s.2.2.2.2=[]/\l.length<=1000000/\tb l+rl k<=10000000)
  (λr=>r.2.1=s.2.2.1/\tg r.2.2.2/\tb r.2.2.2<=tb l+rl k+2/\r.2.2.2.length<=l.length):=⟨λh=>by
 unfold ZJ
 refine vx (λ(i,_,d,_,a)=>0<=i/\i<=l.length/\d=s.2.2.1/\tg a/\tb a<=tb l+rl k+2/\(a.length:Int)<=i) (λ(i,_)=>(l.length-i).toNat) (by grind [tg0]) λ⟨b,c,d,e,a⟩ hs => ?_
 have kb:=Bn l h.2.1 b hs.1
 unfold ZK
 dsimp only at *
 generalize nth l b (zb qq)=x at *
 exact Fx⟩
instance (a:vR) (k:Lf.Rat):Sp (dQ a k) (cg a/\rg k/\a.2.1.length<=1000000/\cb a+rl k<=10000000) (λr=>cg r/\cb r<=cb a+rl k+2/\r.2.1.length<=a.2.1.length):=⟨λh=>by unfold dQ oZ; exact Fx⟩
instance (k:Int) (a b:vR):Sp (ZL k a b) (cg a/\cg b/\a.2.1.length+b.2.1.length<=1000000/\cb a+cb b<=1000000) (λr=>cg r.1/\cb r.1<=cb a+cb b+10/\r.1.2.1.length<=a.2.1.length+b.2.1.length):=⟨λh=>by unfold ZL; exact Fx⟩
def rs(l:List Lf.Rat):Prop:=l.length<=1000000000/\∀ x∈l,rg x/\rl x<=1700
theorem E5{l:List Lf.Rat}(h:rs l)(i:Int)(h0:0<=i)(h1:i<l.length):rg (nth l i (zb zm))/\rl (nth l i (zb zm))<=1700:=h.2 _ (wa h0 h1)
instance (l:List Lf.Rat) (i:Int):Sp (lP l i) (rs l) (λr=>rg r/\rl r<=1700/\((∀ x∈l,rl x<=16)->rl r<=16)):=⟨λh=>by
 have:=E5 h i
 have X:(∀ x∈l,rl x<=16)->0<=i->i<l.length->rl (nth l i (zb zm))<=16:=λh h0 h1=>h _ (wa h0 h1)
 unfold lP
 exact Fx⟩
def vg(v:wu):Prop:=v.1.length<=20000/\v.2.1.length<=20000/\rs v.2.2.1/\∀ x∈v.2.2.1,rl x<=16
instance (s:q9) (v:wu):Sp (Wq s v) (vg v) (λr=>cg r.1/\cb r.1<=16/\r.1.2.1.length<=1):=⟨λh=>by
 have h1:∀ (i:Int) (a:Lf.Rat),rg a->tg [(i,a,())]/\tb [(i,a,())]=rl a:=λi a h=>⟨λt ht=>zE.1 ht▸h,by simp[tb]⟩
 unfold vg at h
 unfold Wq
 exact Fx⟩
open T PL
instance (e:Expr) (v:wu):Sp (Yk e v) (EK e/\vg v) (λr=>cg r.1/\cb r.1<=10300/\r.1.2.1.length<=256):=⟨λh=>by
 obtain⟨⟨n,hn,he⟩,hv⟩:=h
 unfold Yk
 refine xv (P:=λr=>∀ n,EO n e->cg r.1/\cb r.1<=40*n/\r.1.2.1.length<=n) ?_ λr hr=>by have:=hr n he; exact⟨this.1,Z,Z⟩
 refine sM (x:=(e,v)) (λ(e,v)=>(∃ n,n<=256/\EO n e)/\vg v) (λ(e,_)=>SizeOf.sizeOf e) (λ(e,_) (r:vR×Int)=>∀ n,EO n e->cg r.1/\cb r.1<=40*n/\r.1.2.1.length<=n) ?_ ?_ ⟨⟨n,hn,he⟩,hv⟩
 ·intro g g' hg x
  unfold dR
  exact mono
 ·intro⟨e,v⟩ ⟨⟨n,hn,he⟩,hv⟩ g hg
  have z:cg (0,[],(false,[],[],()),())/\cb (0,[],(false,[],[],()),())=0:=⟨⟨nofun,W9.1⟩,by simp[cb,tb,W9.2]⟩
  have hq:∀ {n'},EO n' e->n'=n:=λh=>h.uniq he
  suffices (dR (λy0 y1=>g (y0,y1)) e v).wp λr=>cg r.1/\cb r.1<=40*n/\r.1.2.1.length<=n from xv this λr hr n' h=>by rw[hq h]; exact hr
  clear hq
  cases he with
  | num h1 X =>
   unfold dR
   simp only[Expr.kids,Expr.kind,Expr.num,Expr.name]
   exact wU rfl Fx
  | nam h1 =>
   unfold dR
   simp only[Expr.kids,Expr.kind,Expr.num,Expr.name]
   exact xl rfl (wU rfl Fx)
  | @neg m s i a h1 =>
   have ha:Sp (g (a,v)) True (λr=>cg r.1/\cb r.1<=40*i/\r.1.2.1.length<=i):=⟨λ_=>xv (hg (a,v) ⟨⟨i,Z,h1⟩,hv⟩ (by simp<;>omega)) λr hr=>hr i h1⟩
   unfold dR
   simp only[Expr.kids,Expr.kind,Expr.num,Expr.name]
   clear hg
   refine xl rfl (xl rfl (qk ⟨Z,qp⟩ ?_))
   rw[show nth [a] 0 (zb .expr)=a from rfl]
   refine z8 trivial λr hr=>zg (λ_=>zd ?_) λ_=>wU rfl ?_
   ·grind
   ·exact Fx
  | @bin k m s i j a b h1 X h3 h4 =>
   have ha:Sp (g (a,v)) True (λr=>cg r.1/\cb r.1<=40*i/\r.1.2.1.length<=i):=⟨λ_=>xv (hg (a,v) ⟨⟨i,Z,h3⟩,hv⟩ (by simp<;>omega)) λr hr=>hr i h3⟩
   have I:Sp (g (b,v)) True (λr=>cg r.1/\cb r.1<=40*j/\r.1.2.1.length<=j):=⟨λ_=>xv (hg (b,v) ⟨⟨j,Z,h4⟩,hv⟩ (by simp<;>omega)) λr hr=>hr j h4⟩
   unfold dR
   simp only[Expr.kids,Expr.kind,Expr.num,Expr.name]
   clear hg
   refine xl (wb) (xl (wb) (qk ⟨Z,by simp<;>omega⟩ ?_))
   rw[show nth [a,b] 0 (zb .expr)=a from rfl,show nth [a,b] 1 (zb .expr)=b from rfl]
   refine z8 trivial λr hr=>zg (λ_=>zd ?_) λ_=>xl (wb) (qk ⟨Z,qp⟩ ?_)
   ·grind
   ·exact Fx⟩
theorem c0:cg (0,[],(false,[],[],()),())/\cb (0,[],(false,[],[],()),())=0:=⟨⟨nofun,W9.1⟩,by simp[cb,tb,W9.2]⟩
instance (e:Expr) (v:wu):Sp (YO e v) (EW KK e/\vg v) (λr=>cg r.1/\cb r.1<=10300/\r.1.2.1.length<=256):=⟨λh=>by have:=c0; unfold YO; exact Fx⟩
instance (x:eC) (v:wu):Sp (Q0 x v) (EW KK x.2.2.2.1/\EW KK x.2.2.2.2.1/\vg v) (λr=>cg r.1/\cb r.1<=20700/\r.1.2.1.length<=512/\(r.2=0->r.1.1=x.2.1)):=⟨λh=>by unfold Q0; exact Fx⟩
open T PL
theorem s6{α:Type}(l:List α)(i:Int)(d:α):wm l (0+i.toNat) d=nth l i d:=by simp[wm,nth]
instance (a:List Lf.Rat):Sp (bu a) (a.length<=1000000000) (λr=>r=a):=⟨λh=>by
 unfold bu
 refine zc ?_ (zc ⟨rfl,rfl,rfl,Z⟩ (zc rfl (zd (qp))))
 rintro rfl r hr
 simpa[T.leads,vV,zu]using hr⟩
instance (a:List Int):Sp (yd a) (a.length<=1000000000) (λr=>r=a):=⟨λh=>by
 unfold yd
 refine zc ?_ (zc ⟨rfl,rfl,rfl,Z⟩ (zc rfl (zd (qp))))
 rintro rfl r hr
 simpa[T.leads,vV,zu]using hr⟩
instance (a:List q9):Sp (wT a) (a.length<=1000000000) (λr=>r=a):=⟨λh=>by
 unfold wT
 refine zc ?_ (zc ⟨rfl,rfl,rfl,Z⟩ (zc rfl (zd (qp))))
 rintro rfl r hr
 simpa[T.leads,vV,zu]using hr⟩
instance (a:List Lf.Rat):Sp (ua a) (a.length<=1000000000) (λr=>r=a):=⟨λh=>by
 unfold ua
 refine zc ?_ (zc ⟨rfl,rfl,rfl,Z⟩ (vG (Z) (zd rfl)))
 rintro rfl r hr
 simpa[T.leads,vV,zu]using hr⟩
instance (a:List Int):Sp (ub a) (a.length<=1000000000) (λr=>r=a):=⟨λh=>by
 unfold ub
 refine zc ?_ (zc ⟨rfl,rfl,rfl,Z⟩ (vG (Z) (zd rfl)))
 rintro rfl r hr
 simpa[T.leads,vV,zu]using hr⟩
instance (a:List Bool):Sp (vT a) (a.length<=1000000000) (λr=>r=a):=⟨λh=>by
 unfold vT
 refine zc ?_ (zc ⟨rfl,rfl,rfl,Z⟩ (vG (Z) (zd rfl)))
 rintro rfl r hr
 simpa[T.leads,vV,zu]using hr⟩
instance (a:List qh):Sp (uJ a) (a.length<=1000000000) (λr=>r=a):=⟨λh=>by
 unfold uJ
 refine zc ?_ (zc ⟨rfl,rfl,rfl,Z⟩ (vG (Z) (zd rfl)))
 rintro rfl r hr
 simpa[T.leads,vV,zu]using hr⟩
instance (a:List q9):Sp (wV a) (a.length<=1000000000) (λr=>r=a):=⟨λh=>by
 unfold wV
 refine zc ?_ (zc ⟨rfl,rfl,rfl,Z⟩ (vG (Z) (zd rfl)))
 rintro rfl r hr
 simpa[T.leads,vV,zu]using hr⟩
instance (a:List Rat) (c:Rat->T Bool) (p:Rat->Prop) (P:Rat->Bool->Prop) [∀ x,Sp (c x) (p x) (P x)]:Sp (kW a c) (a.length<=1000000000000/\∀ x∈a,p x) (Bz a P (zb zm)):=⟨ixq⟩
instance (a:List Rat) (c:Rat->T Bool) (p:Rat->Prop) (P:Rat->Bool->Prop) [∀ x,Sp (c x) (p x) (P x)]:Sp (vD a c) (a.length<=1000000000000/\∀ x∈a,p x) (Er a P):=⟨λh=>cnq (Sp.sp h)⟩
instance (a:List Term) (c:Term->T Bool) (p:Term->Prop) (P:Term->Bool->Prop) [∀ x,Sp (c x) (p x) (P x)]:Sp (kz a c) (a.length<=1000000000000/\∀ x∈a,p x) (Bz a P (zb qq)):=⟨ixq⟩
instance (a:List Term) (c:Term->T Bool) (p:Term->Prop) (P:Term->Bool->Prop) [∀ x,Sp (c x) (p x) (P x)]:Sp (ug a c) (a.length<=1000000000000/\∀ x∈a,p x) (Er a P):=⟨λh=>cnq (Sp.sp h)⟩
instance (a:List vR) (c:vR->T Bool) (p:vR->Prop) (P:vR->Bool->Prop) [∀ x,Sp (c x) (p x) (P x)]:Sp (bK a c) (a.length<=1000000000000/\∀ x∈a,p x) (Bz a P (zb zw)):=⟨ixq⟩
instance (a:List vR) (c:vR->T Bool) (p:vR->Prop) (P:vR->Bool->Prop) [∀ x,Sp (c x) (p x) (P x)]:Sp (yX a c) (a.length<=1000000000000/\∀ x∈a,p x) (Er a P):=⟨λh=>cnq (Sp.sp h)⟩
instance (a:List Field) (c:Field->T Bool) (p:Field->Prop) (P:Field->Bool->Prop) [∀ x,Sp (c x) (p x) (P x)]:Sp (gz a c) (a.length<=1000000000000/\∀ x∈a,p x) (Bz a P (zb qy)):=⟨ixq⟩
instance (a:List qh) (c:qh->T Bool) (p:qh->Prop) (P:qh->Bool->Prop) [∀ x,Sp (c x) (p x) (P x)]:Sp (yr a c) (a.length<=1000000000000/\∀ x∈a,p x) (Bz a P (zb zk)):=⟨ixq⟩
instance (a:List qh) (c:qh->T Bool) (p:qh->Prop) (P:qh->Bool->Prop) [∀ x,Sp (c x) (p x) (P x)]:Sp (uF a c) (a.length<=1000000000000/\∀ x∈a,p x) (Er a P):=⟨λh=>cnq (Sp.sp h)⟩
instance (l:List Field) (s:Int×List q9):Sp (rC l (l.length:Int) s) (s.1=0/\l.length<=8200/\(∀ x∈l,x.1.length<=KK)/\ss s.2/\s.2.length<=100000) (λr=>ss r/\r.length<=s.2.length+l.length):=⟨λh=>by
 unfold rC rD
 exact ru l (zb qy) (λ(i,_)=>i) _ (λ_=>True) (λ(i,c)=>0<=i/\i<=l.length/\ss c/\(c.length:Int)<=s.2.length+i) h.2.2.1⟩
def ck(c:vR):Prop:=cg c/\cb c<=20700/\c.2.1.length<=512
def UA(l:List vR):Prop:=l.length<=1000/\∀ c∈l,ck c
def io(n:Int)(l:List Int):Prop:=∀ i∈l,0<=i/\i<n
theorem D9(l:List vR)(c:vR)(h:UA l)(k:ck c)(R:l.length<=999):UA (l++[c]):=⟨by simp; omega,ga h.2 k⟩
theorem DE(n:Int)(l:List Int)(i:Int)(h:io n l)(h0:0<=i)(h1:i<n):io n (l++[i]):=ga h ⟨h0,h1⟩
theorem zdI(n:Int)(l:List Int)(h:io n l)(i:Int)(h0:0<=i)(h1:i<l.length):0<=nth l i (zb (.int .i64))/\nth l i (zb (.int .i64))<n:=h _ (wa h0 h1)
theorem V6:UA []/\∀ n,io n []:=⟨⟨qp,nofun⟩,λ_=>nofun⟩
theorem goe{p:Prop} (h:p:=by
 intros
 repeat' (with_reducible first
  | refine zd ?_
  | refine zg (λ_ => ?_) (λ_ => ?_)
  | refine za ?_
  | refine zh ?_
  | refine vG ?_ ?_
  | refine qk ?_ ?_
  | refine vJ ?_ ?_
  | refine vt ?_ ?_
  | refine zc ?_ ?_
  | refine vY (λ_ _ => ?_) (λ_ _ => ?_)
  | refine z8 ?_ (λ_ _ => ?_)
  | refine vI ?_ (λ_ _ => ?_)
  | refine xe ?_
  | dsimp only)
 all_goals grind [xf,uM,jf,vV,zu,jb,yO,List.length_append,List.length_singleton,D9,DE,V6,ck,V7,Er,Bz]):p:=h
instance (x:Lf.Rat):Sp (c8 x) (rg x/\rl x<=1700) (λr=>r=false->rl x<=16):=⟨λh=>by have:nm x↔norm x=x:=Iff.rfl; unfold c8; exact goe⟩
instance (x:Switch) (s:q9):Sp (dV x s) True (λ_=>True):=⟨λ_=>by unfold dV; exact goe⟩
instance (f:Form) (l:List Bool) (s:q9):Sp (Wx f l s) (f.1.length<=8200/\l.length=f.1.length) (λ_=>True):=⟨λh=>by unfold Wx; exact goe⟩
instance (x:Term):Sp (hH x) (rg x.2.1/\rl x.2.1<=50000) (λ_=>True):=⟨λh=>by unfold hH; exact goe⟩
instance (c:vR):Sp (ZZ c) (ck c) (λ_=>True):=⟨λh=>by
 have h1:∀ t∈c.2.1,rg t.2.1/\rl t.2.1<=50000:=λt ht=>⟨h.1.1 t ht,by have:=Wf ht; have:=h.2.1; unfold cb at this; omega⟩
 have X:=h.1.2
 have h3:rl c.2.2.1<=50000:=by have:=h.2.1; unfold cb at this; omega
 have h4:=h.2.2
 clear h
 unfold ZZ
 exact goe⟩
instance (f:Form):Sp (td f) (FV f) (λr=>ss r/\r.length<=8200):=⟨λh=>by
 obtain⟨h1,_,_,h4⟩:=FV.fe h
 unfold td oZ
 exact Fy⟩
instance (l:List Param) (s:Int×(List Lf.Rat×Unit)×(List q9×List Lf.Rat×Unit)×List q9×List q9×List q9):Sp (Xr l (l.length:Int) s) (s.1=0/\l.length<=8200/\s.2.2.2.2.2=[]) (λr=>r.2.1=s.2.2.1/\r.2.2.2.2.length<=8200):=⟨λh=>by
 unfold Xr Xs
 refine vx (λ(i,_,d,_,_,c)=>0<=i/\i<=l.length/\d=s.2.2.1/\(c.length:Int)<=i) (λ(i,_)=>(l.length-i).toNat) (wb) ?_
 exact goe⟩
instance (f:Form) (l:List Lf.Rat):Sp (rB f l) (FV f/\rs l/\∀ x∈l,rl x<=16) (λr=>vg r):=⟨λh=>by
 obtain⟨h1,_⟩:=FV.fe h.1
 have X:l.length<=1000000000:=h.2.1.1
 unfold rB vg
 exact goe⟩
open T PL
def EJ(f:Form)(v:wu)(z:Int)(d:wu)(a:List vR)(b:List Int):Prop:=0<=z/\z<=64/\d=v/\UA a/\io f.2.2.2.2.1.length b/\a.length=b.length/\(a.length:Int)<=z
theorem goE{p:Prop} (h:p:=by
 intros
 repeat' (with_reducible first
  | refine zd ?_
  | refine zg (λ_ => ?_) (λ_ => ?_)
  | refine za ?_
  | refine zh ?_
  | refine vG ?_ ?_
  | refine qk ?_ ?_
  | refine vJ ?_ ?_
  | refine vt ?_ ?_
  | refine zc ?_ ?_
  | refine vY (λ_ _ => ?_) (λ_ _ => ?_)
  | refine z8 ?_ (λ_ _ => ?_)
  | refine vI ?_ (λ_ _ => ?_)
  | refine xe ?_
  | dsimp only)
 all_goals grind [xf,uM,jf,vV,zu,jb,yO,List.length_append,List.length_singleton,D9,DE,V6,ck,V7,Er,Bz,EJ]):p:=h
instance (o:List Bool) (f:Form) (s:Int×Unit×Unit×wu×List vR×List Int):Sp (ry o f f.2.2.2.2.1 (f.2.2.2.2.1.length:Int) s) (s.1=0/\FV f/\f.2.2.2.2.1.length<=64/\o.length=f.1.length/\vg s.2.2.2.1/\s.2.2.2.2=([],[]))
  (λr=>match r with | .inl z=>z.2.2.1=s.2.2.2.1/\UA z.2.2.2.1/\io f.2.2.2.2.1.length z.2.2.2.2/\z.2.2.2.1.length=z.2.2.2.2.length/\z.2.2.2.1.length<=64 | .inr z=>z.2.1≠0):=⟨λh=>by
 have h1:=h.2.1.1.1.1
 have X:∀ x∈f.2.2.2.2.1,EW KK x.2.2.2.1/\EW KK x.2.2.2.2.1:=λx N=>(h.2.1.1.2.2.2.2.1.2 x N).2.2
 obtain⟨h3,_,h4,h5,h6,h7⟩:=h
 unfold ry
 refine eX f.2.2.2.2.1 (zb xp) (λ(i,_)=>i) _ (λ_=>True) (λ(i,_,_,d,a,b)=>EJ f s.2.2.2.1 i d a b) X ⟨h3,by grind [EJ,V6]⟩ (λ⟨c,l,m,d,a,b⟩ x hj N he h0 R => ?_) λ⟨c,l,m,d,a,b⟩ hj he _ => ?_
 ·have hr:=he▸N
  dsimp only at *
  generalize s.2.2.2.1=v at *
  clear X he N h7 h3
  unfold iw
  exact goE
 ·clear X
  unfold iw
  exact goE⟩
instance (f:Form) (u v:Unit) (e:wu) (a:List vR) (b:List Int):Sp (rA f (a.length:Int) (0,u,v,e,a,b)) (UA a/\io f.2.2.2.2.1.length b/\a.length=b.length/\a.length<=64)
  (λr=>match r with | .inl z=>z.2.2.2=(a,b) | .inr z=>z.2.1≠0):=⟨λh=>by
 obtain⟨h1,X,h3,h4⟩:=h
 unfold rA
 refine eX a (zb zw) (λ(i,_)=>i) _ (λ_=>True) (λ(i,_,_,_,a',b')=>0<=i/\i<=64/\a'=a/\b'=b) h1.2 ⟨rfl,Z,Z,rfl,rfl⟩ (λ⟨c,l,m,d,a',b'⟩ x ⟨k0,k1,k2,k3⟩ N he h0 R => ?_) λ⟨c,l,m,d,a',b'⟩ ⟨k0,k1,k2,k3⟩ he _ => ?_
 ·subst k2 k3
  have hr:=he▸N
  have hi:=zdI _ _ X c h0 (by dsimp only at *; omega)
  dsimp only at *
  unfold iA
  simp only[s6]
  clear h1 X he N
  exact goE
 ·subst k2 k3
  clear h1 X
  unfold iA
  simp only[s6]
  exact goE⟩
instance (f:Form) (p:List Lf.Rat) (o:List Bool):Sp (nn f p o) (FW 8200 f/\rs p/\o.length<=1000000000)
  (λr=>UA r.2.2.2.1/\io f.2.2.2.2.1.length r.2.2.2.2/\r.2.2.2.1.length=r.2.2.2.2.length/\r.2.2.2.1.length<=64/\(r.2.2.1=0->FV f/\f.2.2.2.1.length<=64/\f.2.2.2.2.1.length<=64/\p.length=f.2.1.length/\o.length=f.1.length)):=⟨λh=>by
 have h1:p.length<=1000000000/\∀ x∈p,rg x/\rl x<=1700:=h.2.1
 have X:=V6
 unfold nn oZ
 exact goE⟩
end Go.AM.Lf
namespace Go.AM.PL
namespace G
def jn(f:Int->Int)(a b:Int):Int->Int:=λu=>if f u=max (f a) (f b)then min (f a) (f b)else f u
def Yg(f:Int->Int)(a:Int):List Int->(Int->Int)×Bool
 | []=>(f,true)
 | b::r=>((Yg (jn f a b) a r).1,decide (f a≠f b)&&(Yg (jn f a b) a r).2)
def O4(f:Int->Int):List Int->(Int->Int)×Bool
 | []=>(f,true)
 | a::r=>Yg f a r
def UO(f:Int->Int)(i:Int):List (List Int)->Int
 | [] => -1
 | c::r=>if(O4 f c).2=true then UO (O4 f c).1 (i+1) r else i
theorem ziL(f:Int->Int)(a b:Int):jn f a b a=jn f a b b:=by unfold jn; grind
theorem O6{f:Int->Int}{u w:Int}(a b:Int)(h:f u=f w):jn f a b u=jn f a b w:=by unfold jn; rw[h]
theorem Gt:∀ (r:List Int) (f:Int->Int) (a u w:Int),f u=f w->(Yg f a r).1 u=(Yg f a r).1 w
 | [],_,_,_,_,h=>h
 | b::r,f,a,u,w,h=>Gt r (jn f a b) a u w (O6 a b h)
theorem z2o(c:List Int)(f:Int->Int){u w:Int}(h:f u=f w):(O4 f c).1 u=(O4 f c).1 w:=by
 cases c with
 | nil=>exact h
 | cons a r=>exact Gt r f a u w h
theorem O5:∀ (r:List Int) (f:Int->Int) (a b:Int),b∈r->(Yg f a r).1 b=(Yg f a r).1 a
 | c::r,f,a,b,h=>by
  rcases zR.1 h with rfl | h
  ·exact Gt r _ a b a (ziL f a b).symm
  ·exact O5 r (jn f a c) a b h
theorem z7W(c:List Int)(f:Int->Int){u w:Int}(hu:u∈c)(hw:w∈c):(O4 f c).1 u=(O4 f c).1 w:=by
 cases c with
 | nil=>cases hu
 | cons a r =>
  have key:∀ b∈a::r,(Yg f a r).1 b=(Yg f a r).1 a:=λb h=>by
   rcases zR.1 h with rfl | h
   ·rfl
   ·exact O5 r f a b h
  exact(key u hu).trans (key w hw).symm
theorem K8:∀ (r:List Int) (f:Int->Int) (a:Int),(Yg f a r).2=true->(∀ b∈r,f a≠f b)/\r.Pairwise λb c=>f b≠f c
 | [],_,_,_=>⟨λb h=>(by cases h),.nil⟩
 | b::r,f,a,h=>by
  unfold Yg at h
  simp only[zU,decide_eq_true_eq]at h
  obtain⟨h1,X⟩:=K8 r (jn f a b) a h.2
  have I:∀ c∈r,f a≠f c/\f b≠f c:=λc hc=>by
   have:=h1 c hc
   unfold jn at this
   grind
  refine⟨λc hc => ?_,.cons (λc hc=>(I c hc).2) (X.imp_of_mem λ{c d} hc J g e=>g (O6 a b e))⟩
  rcases zR.1 hc with rfl | hc
  ·exact h.1
  ·exact(I c hc).1
theorem To{c:List Int}{f:Int->Int}(h:(O4 f c).2=true):c.Pairwise λb d=>f b≠f d:=by
 cases c with
 | nil=>exact .nil
 | cons a r=>exact .cons (K8 r f a h).1 (K8 r f a h).2
def z0r(rk:Int->Nat)(cs:List (List Int))(outs:List Int):Prop:=∀ i (h:i<cs.length) (h':i<outs.length),outs[i]∈cs[i]->∀ t∈cs[i],t≠outs[i]->rk t<rk outs[i]
theorem zmX:∀ (cs:List (List Int)) (outs:List Int) (f:Int->Int) (i:Int) (rk0:Int->Nat) (B:Nat) (V6:List (List Int)) (Zu:List Int),0<=i->UO f i cs = -1->V6.length=Zu.length->(∀ v,rk0 v<=B) ->
  (∀ c∈V6,∀ u∈c,∀ w∈c,f u=f w)->z0r rk0 V6 Zu->∃ rk:Int->Nat,∃ B',(∀ v,rk v<=B')/\z0r rk (V6++cs) (Zu++outs)
 | [],outs,f,i,rk0,B,V6,Zu,_,_,R,hB,_,hA=>⟨rk0,B,hB,λj h h'=>by
   simp only[List.append_nil]at h ⊢
   have e:(Zu++outs)[j]'h'=Zu[j]'(R▸h):=zN _
   rw[e]
   exact hA j h (R▸h)⟩
 | c::cs,[],f,i,rk0,B,V6,Zu,_,_,R,hB,_,hA=>⟨rk0,B,hB,λj h h'=>by
   simp only[List.append_nil]at h' ⊢
   have e:(V6++c::cs)[j]'h=V6[j]'(R▸h'):=zN _
   rw[e]
   exact hA j (R▸h') h'⟩
 | c::cs,o::outs,f,i,rk0,B,V6,Zu,hi,hf,R,hB,hc,hA=>by
  unfold UO at hf
  split at hf
  ·rename_i hk
   have hap:=To hk
   let rk:Int->Nat:=λu=>rk0 u+if f u=f o then B+1 else 0
   have hrk:z0r rk (V6++[c]) (Zu++[o]):=λj h h'=>by
    by_cases hj:j<V6.length
    ·have e1:(V6++[c])[j]'h=V6[j]:=zN hj
     have e2:(Zu++[o])[j]'h'=Zu[j]'(R▸hj):=zN (R▸hj)
     rw[e1,e2]
     intro hm t ht ki
     have h1:=hA j hj (R▸hj) hm t ht ki
     have X:=hc _ (zO hj) t ht _ hm
     show rk0 t+(if f t=f o then B+1 else 0)<rk0 _+(if f _=f o then B+1 else 0)
     rw[X]; omega
    ·have NW:j=V6.length:=by simp at h; omega
     subst NW
     have e1:(V6++[c])[V6.length]'h=c:=qp
     have e2:(Zu++[o])[V6.length]'h'=o:=by simp[R]
     rw[e1,e2]
     intro hm t ht ki
     have hno:f t≠f o:=by
      obtain⟨p,hp,rfl⟩:=zX ht
      obtain⟨q,hq,rfl⟩:=zX hm
      rcases Nat.lt_trichotomy p q with h3 | h3 | h3
      ·exact zZ.1 hap p q hp hq h3
      ·subst h3; exact absurd rfl ki
      ·exact λe=>zZ.1 hap q p hq hp h3 e.symm
     show rk0 t+(if f t=f o then B+1 else 0)<rk0 o+(if f o=f o then B+1 else 0)
     rw[if_neg hno,if_pos rfl]
     have:=hB t
     omega
   have:=zmX cs outs (O4 f c).1 (i+1) rk (B+(B+1)) (V6++[c]) (Zu++[o]) (Z) hf (by simp[R]) (λv=>by
     show rk0 v+(if f v=f o then B+1 else 0)<=_
     have:=hB v
     split<;>omega) (λd J u hu w hw=>by
     rcases zG.1 J with J | J
     ·exact z2o c f (hc d J u hu w hw)
     ·rw[zE.1 J]at hu hw; exact z7W c f hu hw) hrk
   simpa using this
  ·omega
end G
end Go.AM.PL
namespace Go.AM.PL
namespace G
structure RL(r:List Int)(f:Int->Int):Prop where
 a:∀ (v:Nat) (h:v<r.length),0<=r[v]/\r[v]<=v
 b:∀ (v:Nat) (h:v<r.length),f r[v]=f v
 c:∀ (v:Nat) (h:v<r.length),r[v]=v->f v=v
theorem RL.at{r:List Int}{f:Int->Int}(H:RL r f){v:Nat}(h:v<r.length):∃ w:Nat,r[v]=(w:Int)/\w<=v/\w<r.length/\f w=f v:=by
 have h1:=H.a v h
 have X:=H.b v h
 refine⟨r[v].toNat,Z,Z,Z,?_⟩
 rw[Int.toNat_of_nonneg h1.1]; exact X
theorem RL.zhE{r:List Int}{f:Int->Int}(H:RL r f){v w:Nat}(h:v<r.length)(hw:r[v]=(w:Int))(hwl:w<r.length):RL (r.set v r[w]) f:=by
 have h1:=H.a v h
 have X:=H.a w hwl
 have h3:=H.b v h
 have h4:=H.b w hwl
 refine⟨λu hu => ?_,λu hu => ?_,λu hu => ?_⟩<;>simp only[List.length_set]at hu<;>rw[qA]
 ·split
  ·omega
  ·exact H.a u hu
 ·split
  ·rename_i e; subst e; rw[h4,<- hw,h3]
  ·exact H.b u hu
 ·split
  ·rename_i e
   subst e
   intro e
   exact H.c v h (Z)
  ·exact H.c u hu
theorem RL.join{r:List Int}{f:Int->Int}(H:RL r f){v w a b:Nat}(ha:f v=(a:Int))(I:f w=(b:Int))(Yb:a<r.length)(hbl:b<r.length)(fa:f a=a)(fb:f b=b) :
  RL (r.set (max a b) ((min a b:Nat):Int)) (jn f v w):=by
 have key:∀ u:Int,jn f v w u=if f u=((max a b:Nat):Int)then((min a b:Nat):Int)else f u:=λu=>by unfold jn; rw[ha,I]; split<;>split<;>omega
 have fm:f ((min a b:Nat):Int)=((min a b:Nat):Int):=by rcases Nat.le_total a b with h | h<;>simp[Nat.min_eq_left,Nat.min_eq_right,h,fa,fb]
 have fM:f ((max a b:Nat):Int)=((max a b:Nat):Int):=by rcases Nat.le_total a b with h | h<;>simp[Nat.max_eq_left,Nat.max_eq_right,h,fa,fb]
 refine⟨λu hu => ?_,λu hu => ?_,λu hu => ?_⟩<;>simp only[List.length_set]at hu<;>rw[qA]
 ·split
  ·omega
  ·exact H.a u hu
 ·rw[key,key]
  split
  ·rename_i e; subst e; rw[fm,fM,if_pos rfl]; split<;>rfl
  ·rw[H.b u hu]
 ·rw[key]
  split
  ·rename_i e; subst e; intro e; rw[fM,if_pos rfl]; exact e
  ·rename_i e
   intro h
   rw[H.c u hu h,if_neg (Z)]
end G
end Go.AM.PL
namespace Go.AM.Lf
open T PL
def VC(n:Int)(c:vR):Prop:=0<=c.1/\c.1<=4/\∀ t∈c.2.1,0<=t.1/\t.1<n
def vs(c:vR):List Int:=c.2.1.map (·.1)
theorem F5(c:vR):rl c.2.2.1<=cb c:=by unfold cb; omega
theorem gog{p:Prop} (h:p:=by
 intros
 repeat' (with_reducible first
  | refine zd ?_
  | refine zg (λ_ => ?_) (λ_ => ?_)
  | refine za ?_
  | refine zh ?_
  | refine vG ?_ ?_
  | refine qk ?_ ?_
  | refine vJ ?_ ?_
  | refine vt ?_ ?_
  | refine zc ?_ ?_
  | refine vY (λ_ _ => ?_) (λ_ _ => ?_)
  | refine z8 ?_ (λ_ _ => ?_)
  | refine vI ?_ (λ_ _ => ?_)
  | refine xe ?_
  | dsimp only)
 all_goals grind [xf,uM,dH,jf,vV,zu,jb,yO,List.length_set,V7,dZ,rV]):p:=h
instance (n:Int) (c:vR) (s:Int×Int):Sp (Z6 n c.2.1 (c.2.1.length:Int) s) (s=(0,0)/\n<=1000000/\cg c/\cb c<=1000000/\c.2.1.length<=1000000) (λr=>match r with | .inl _=>∀ t∈c.2.1,0<=t.1/\t.1<n | .inr b=>b=false):=⟨λh=>by
 unfold Z6
 refine eX c.2.1 (zb qq) (λ(_,i)=>i) (λx=>rg x.2.1/\rl x.2.1<=1000000) (λx=>0<=x.1/\x.1<n) (λ(g,i)=>0<=g/\0<=i) (λx N=>⟨h.2.2.1.1 x N,by have:=Wf N; have:=h.2.2.2.1; unfold cb at this; omega⟩) (wb) (λ⟨g,i⟩ x hj N he h0 R => ?_) λ⟨g,i⟩ hj he hp => ?_
 ·dsimp only at *
  unfold pF
  dsimp only
  rw[he]
  clear he
  exact gog
 ·dsimp only at *
  unfold pF
  clear h
  exact gog⟩
instance (c:vR) (n:Int):Sp (dn c n) (n<=1000000/\cg c/\cb c<=1000000/\c.2.1.length<=1000000) (λr=>r=true->VC n c):=⟨λh=>by
 have h1:rg c.2.2.1/\rl c.2.2.1<=1000000:=⟨h.2.1.2,by have:=F5 c; omega⟩
 have X:0<=c.1->c.1<=4->(∀ t∈c.2.1,0<=t.1/\t.1<n)->VC n c:=λa b d=>⟨a,b,d⟩
 unfold dn
 exact gog⟩
theorem RR{f:Int->Int}(n:Nat)(v:Int)(r:List Int)(h:G.RL r f/\0<=v/\v<n/\r.length=n):(yQ (0,n) v r).wp λ(z:Int×List Int)=>G.RL z.2 f/\z.2.length=n/\z.1=f v/\0<=z.1/\z.1<n/\f z.1=z.1:=by
 unfold yQ lH
 refine za (za (xe ?_))
 refine xv (P:=λ(z:Int×List Int)=>G.RL z.2 f/\z.2.length=n/\z.1=f v/\0<=z.1/\z.1<n/\f z.1=z.1) ?_ λz hz=>za (zd hz)
 refine vx (λ(b,c,a)=>b=(0,n)/\G.RL a f/\0<=c/\c<n/\a.length=n/\f c=f v) (λ(_,c,_)=>c.toNat) ⟨rfl,h.1,h.2.1,h.2.2.1,h.2.2.2,rfl⟩ λ⟨b,c,a⟩ ⟨h1,X,h3,h4,h5,h6⟩ => ?_
 subst h1
 obtain⟨k,rfl⟩:=M h3
 have hk:k<a.length:=Z
 obtain⟨w,hw,hwk,hwl,hfw⟩:=X.at hk
 have e1:wm a (0+qM (k:Int)) (zb (.int .i64))=a[k]:=by simp[wm,hk]
 have e2:wm a (0+qM (w:Int)) (zb (.int .i64))=a[w]:=by simp[wm,hwl]
 unfold cP
 dsimp only
 rw[e1,hw,e2]
 refine zc ⟨Z,Z⟩ (zc ⟨rfl,by simp; omega⟩ (zg (λhn => ?_) λhn => ?_))
 ·have ki:w≠k:=by rintro rfl; simp at hn
  obtain⟨x,N,hxw,Dz,hfx⟩:=X.at hwl
  have e3:wm (a.set (0+qM (k:Int)) a[w]) (0+qM (k:Int)) (zb (.int .i64))=a[w]:=by simp[wm,hk]
  rw[e3]
  have hs:(0+qM (k:Int))=k:=Z
  rw[hs]
  refine zc ⟨Z,Z⟩ (zc ⟨rfl,Z⟩ (zc ⟨Z,by simp; omega⟩ (zc ⟨rfl,by simp; omega⟩ (zc ⟨Z,Z⟩ (zc ⟨rfl,Z⟩ (zc ⟨Z,Z⟩ (zc ⟨qp,by simp; omega⟩ (za (zc (qp) (zd ?_))))))))))
  dsimp only
  refine⟨⟨rfl,X.zhE hk hw hwl,Z,Z,by simp; omega,?_⟩,Z⟩
  rw[N,hfx,hfw]; exact h6
 ·have:w=k:=by simp at hn; omega
  subst this
  have:=X.c w hk hw
  exact za (zd ⟨X,h5,by rw[<- h6,this],Z,Z,this⟩)
theorem z2p{f:Int->Int}(n:Nat)(v w:Int)(r:List Int)(h:G.RL r f/\0<=v/\v<n/\0<=w/\w<n/\r.length=n):(bp (0,n) v w r).wp λz=>G.RL z.2 (G.jn f v w)/\z.2.length=n/\z.1=decide (f v≠f w):=by
 obtain⟨h1,X,h3,h4,h5,h6⟩:=h
 obtain⟨v,rfl⟩:=M X
 obtain⟨w,rfl⟩:=M h4
 have h:=qL h1 (qL X (qL h3 (qL h4 (qL h5 h6))))
 unfold bp
 refine za (za (xe (xv (RR n (v:Int) r ⟨h.1,h.2.1,h.2.2.1,h.2.2.2.2.2⟩) λz ⟨a1,a2,a3,a4,a5,a6⟩=>zc (Z) (za (xe (xv (RR n (w:Int) z.2 ⟨a1,h.2.2.2.1,h.2.2.2.2.1,a2⟩) λy ⟨b1,b2,b3,b4,b5,b6⟩ => ?_))))))
 have hm:dZ z.1 y.1=max z.1 y.1:=by unfold dZ; split<;>omega
 have hi:rV z.1 y.1=min z.1 y.1:=by unfold rV; split<;>omega
 dsimp only
 rw[hm,hi]
 obtain⟨a,ha⟩:=M a4
 obtain⟨b,I⟩:=M b4
 have hj:=b1.join (v:=v) (w:=w) (a:=a) (b:=b) (Z) (Z) (Z) (Z) (by rw[<- ha]; exact a6) (by rw[<- I]; exact b6)
 have e1:0+(max z.1 y.1).toNat=max a b:=Z
 have e2:min z.1 y.1=((min a b:Nat):Int):=Z
 rw[e1,e2]
 refine zc ⟨Z,Z⟩ (zc ⟨Z,Z⟩ (zc (qp) (zd ⟨hj,by simp; omega,?_⟩)))
 rw[a3,b3]
 by_cases e:f v=f w<;>simp[e]
theorem z1j:∀ (a:List (List Int)) (b:List Int) (f:Int->Int) (i:Int),0<=i->G.UO f i a = -1->G.UO f i (a++[b])=if(G.O4 (a.foldl (λf c=>(G.O4 f c).1) f) b).2=true then -1 else i+a.length:=by
 intro a
 induction a with
 | nil=>intro b f i h0 h; simp[G.UO]
 | cons c a ih =>
  intro b f i h0 h
  unfold G.UO at h
  rw[List.cons_append]
  unfold G.UO
  split at h
  ·rename_i e
   rw[if_pos e,ih b _ (i+1) (Z) h,List.foldl_cons]
   simp only[List.length_cons]
   split
   ·rfl
   ·omega
  ·omega
open T PL
theorem z7V(n:Nat)(hn:n<=64)(d:List vR)(m:Int):(oa d m (n:Int) (0,qK n 0)).wp λr=>G.RL r id/\r.length=n:=by
 unfold oa
 refine vx (σ:=Int×List Int) (λ(b,a)=>0<=b/\b<=n/\a.length=n/\∀ (j:Nat) (h:j<a.length),(j:Int)<b->a[j]=j) (λ(b,_)=>(n-b).toNat) ⟨Z,Z,qp,λj h h'=>Z⟩ λ⟨b,a⟩ ⟨h0,h1,X,h3⟩ => ?_
 unfold od
 refine zg (λh => ?_) λh => ?_
 ·have h:=uf h
  refine qk ⟨Z,Z⟩ (zc ⟨rfl,Z⟩ (vG (qp) (zd ?_)))
  rw[qo (Z) (Z)]
  refine⟨⟨Z,Z,by simp; omega,λj hj I => ?_⟩,by dsimp only; omega⟩
  rw[qA]
  split
  ·omega
  ·exact h3 j (by simpa using hj) (Z)
 ·have h:=yT h
  exact zh (za (zd ⟨⟨λv hv=>by rw[h3 v hv (Z)]; omega,λv hv=>by rw[h3 v hv (Z)],λv hv _=>rfl⟩,X⟩))
theorem z4P(c:vR)(i:Int)(h0:0<=i)(h1:i<c.2.1.length):(vs c)[i.toNat]? = some (nth c.2.1 i (zb qq)).1:=by
 unfold vs nth
 rw[List.getElem?_map,zA,zJ (Z)]
 rfl
theorem zcK{f0:Int->Int}(n:Nat)(c:vR)(hc:VC n c)(R:c.2.1.length<=1000)(i first:Int)(k m q)(x5)(row:List Int)(hr:G.RL row f0)(hn:row.length=n) :
  (ob k i x5 m q (first,1,row,c)).wp λ(z:Int×List Int×vR)=>G.RL z.2.1 (G.O4 f0 (vs c)).1/\z.2.1.length=n/\z.1=if first<0/\(G.O4 f0 (vs c)).2=false then i else first:=by
 unfold ob
 obtain⟨t,r,hv⟩ | hv:(∃ t r,vs c=t::r)\/vs c=[]:=by cases vs c with | nil=>exact .inr rfl | cons t r=>exact .inl ⟨t,r,rfl⟩
 ·rw[hv]
  have hlen:c.2.1.length=r.length+1:=by have:=congrArg qI hv; unfold vs at this; simpa using this
  have ht:(nth c.2.1 0 (zb qq)).1=t:=by have:=z4P c 0 (Z) (Z); rw[hv]at this; simpa using this.symm
  show(T.loop _ _).wp λ(z:Int×List Int×vR)=>G.RL z.2.1 (G.Yg f0 t r).1/\z.2.1.length=n/\z.1=if first<0/\(G.Yg f0 t r).2=false then i else first
  refine vx (σ:=Int×Int×List Int×vR) (λ(f,e,a,b)=>b=c/\1<=e/\e<=c.2.1.length/\a.length=n/\∃ g ok,G.RL a g/\(G.Yg f0 t r).1=(G.Yg g t (r.drop (e-1).toNat)).1/\(G.Yg f0 t r).2=(ok&&(G.Yg g t (r.drop (e-1).toNat)).2)/\f=if first<0/\ok=false then i else first)
   (λ(_,e,_,_)=>(c.2.1.length-e).toNat) ⟨rfl,Z,Z,hn,f0,true,hr,qp,qp,qp⟩ λ⟨f,e,a,b⟩ ⟨h1,X,h3,h4,g,ok,h5,h6,h7,h8⟩ => ?_
  subst h1
  unfold eR
  refine zg (λh => ?_) λh => ?_
  ·have h:=uf h
   have e0:=(hc.2.2 _ (wa (d:=zb qq) (i:=0) (Z) (Z)))
   have e1:=(hc.2.2 _ (wa (d:=zb qq) (i:=e) (Z) h))
   have J:r.drop (e-1).toNat=(nth b.2.1 e (zb qq)).1::r.drop (e+1-1).toNat:=by
    have:=z4P b e (Z) h
    rw[hv,show e.toNat=(e-1).toNat+1 by omega,List.getElem?_cons_succ]at this
    obtain⟨wO,he⟩:=List.getElem?_eq_some_iff.1 this
    rw[zY wO,he,show(e+1-1).toNat=(e-1).toNat+1 by omega]
   rw[J]at h6 h7
   rw[ht]at e0
   dsimp only
   rw[ht]
   generalize (nth b.2.1 e (zb qq)).1=w at *
   rw[h4]
   refine xe (qk ⟨Z,Z⟩ (qk ⟨Z,h⟩ (za (za (xe (xv (z2p n t w a ⟨h5,e0.1,e0.2,e1.1,e1.2,h4⟩) λz hz => ?_))))))
   obtain⟨z1,z2⟩:=z
   obtain⟨k1,k2,k3⟩:=hz
   dsimp only at k1 k2 k3 ⊢
   have hw:qj (e+1)=e+1:=qo (Z) (Z)
   have N:(G.Yg g t (w::r.drop (e+1-1).toNat))=((G.Yg (G.jn g t w) t (r.drop (e+1-1).toNat)).1,decide (g t≠g w)&&(G.Yg (G.jn g t w) t (r.drop (e+1-1).toNat)).2):=rfl
   rw[N]at h6 h7
   have fin:∀ f',(f'=if first<0/\(ok&&decide (g t≠g w))=false then i else first)->f'=f'->b=b/\1<=e+1/\e+1<=b.2.1.length/\z2.length=n/\∃ g ok,G.RL z2 g/\(G.Yg f0 t r).1=(G.Yg g t (r.drop (e+1-1).toNat)).1/\(G.Yg f0 t r).2=(ok&&(G.Yg g t (r.drop (e+1-1).toNat)).2)/\f'=if first<0/\ok=false then i else first :=
    λf' hf _=>⟨rfl,Z,Z,k2,_,_,k1,h6,by rw[h7,Bool.and_assoc],hf⟩
   refine zg (λhz => ?_) λhz => ?_
   ·refine zc ⟨k2.symm,rfl,k2.symm⟩ (za (zd (zg (λh9 => ?_) λh9 => ?_)))
    ·have h9:=uf h9
     refine zh (za (zd ?_))
     rw[hw]
     have e:g t=g w:=by rw[k3]at hz; simpa using hz
     refine⟨fin i ?_ rfl,by dsimp only; omega⟩
     rw[h8]at h9
     simp only[e,ne_eq,not_true_eq_false,decide_false,Bool.and_false,and_true]
     split
     ·rfl
     ·rename_i h10; rw[if_neg (λh=>h10 h.1)]at h9; exact absurd h9 h10
    ·have h9:=yT h9
     refine zh (za (zd ?_))
     rw[hw]
     have e:g t=g w:=by rw[k3]at hz; simpa using hz
     refine⟨fin f ?_ rfl,by dsimp only; omega⟩
     rw[h8]at h9 ⊢
     simp only[e,ne_eq,not_true_eq_false,decide_false,Bool.and_false,and_true]
     by_cases h10:first<0/\ok=false
     ·rw[if_pos h10,if_pos h10.1]
     ·rw[if_neg h10]at h9 ⊢; rw[if_neg h9]
   ·refine zc ⟨k2.symm,rfl,k2.symm⟩ (za (zd (zg (λh9=>nomatch h9) λ_ => ?_)))
    refine zh (za (zd ?_))
    rw[hw]
    have e:decide (g t≠g w)=true:=by rw[k3]at hz; simpa using hz
    refine⟨fin f ?_ rfl,by dsimp only; omega⟩
    rw[e,Bool.and_true]; exact h8
  ·have h:=yT h
   rw[qC (Z)]at h6 h7
   refine zh (za (zd ⟨by rw[h6]; exact h5,h4,?_⟩))
   rw[h7]
   simpa[G.Yg]using h8
 ·rw[hv]
  have hlen:c.2.1.length=0:=by have:=congrArg qI hv; unfold vs at this; simpa using this
  refine vx (λs=>s=(first,1,row,c)) (λ_=>0) rfl λs hs => ?_
  subst hs
  unfold eR
  exact zg (λh=>absurd (uf h) (by rw[hlen]; omega)) λ_=>zh (za (zd ⟨hr,hn,by simp[G.O4]⟩))
open T PL
def cw(c:vR):Prop:=cg c/\cb c<=1000000/\c.2.1.length<=1000
def Ac(n:Int)(l:List vR):Prop:=l.length<=1000/\∀ c∈l,cw c/\(dn c n).run=some true
theorem Ac.vc{n:Int}{l:List vR}(h:Ac n l)(hn:n<=64){c:vR}(hc:c∈l):VC n c:=by
 obtain⟨h1,X⟩:=h.2 c hc
 exact HF ((inferInstance:Sp (dn c n) (n<=1000000/\cg c/\cb c<=1000000/\c.2.1.length<=1000000) (λr=>r=true->VC n c)).sp ⟨Z,h1.1,h1.2.1,by have:=h1.2.2; omega⟩) X rfl
instance (l:List vR) (n:Int):Sp (nw l n) (0<=n/\n<=64/\Ac n l) (λr => -1<=r/\r<l.length/\(r<0->G.UO id 0 (l.map vs) = -1)):=⟨λ⟨h0,h1,X⟩=>by
 obtain⟨n,rfl⟩:=M h0
 have R:=X.1
 have e1:rV (dZ (n:Int) 0) 64=(n:Int):=by unfold rV dZ; split<;>split<;>omega
 unfold nw Q8
 dsimp only
 rw[e1,zS]
 refine xe (zc ⟨Z,Z,Z,Z⟩ (vG (qp) (xe (xv (z7V n (Z) l n) λrow ⟨a1,a2⟩=>zh (za (xe ?_))))))
 refine xv (P:=λ(z:Int×List Int) => -1<=z.1/\z.1<l.length/\(z.1<0->G.UO id 0 (l.map vs) = -1)) ?_ λz hz=>za (zd (zd hz))
 unfold QU
 refine vx (σ:=Int×Int×List Int) (λ(e,b,a)=>0<=b/\b<=l.length/\a.length=n/\G.RL a (((l.take b.toNat).map vs).foldl (λf c=>(G.O4 f c).1) id) /\ -1<=e/\e<max b 1/\(e<b)/\(e<0->G.UO id 0 ((l.take b.toNat).map vs) = -1)) (λ(_,b,_)=>(l.length-b).toNat)
  ⟨Z,Z,a2,by simpa using a1,Z,Z,Z,λ_=>rfl⟩ λ⟨e,b,a⟩ ⟨b0,b1,b2,b3,b4,b5,b6,b7⟩ => ?_
 unfold oe
 refine zg (λh => ?_) λh => ?_
 ·have h:=uf h
  have hm:=wa (d:=zb zw) b0 h
  have hv:=X.vc h1 hm
  obtain⟨k1,k2⟩:=X.2 _ hm
  have ht:=ef l b (zb zw) b0 h
  have hw:qj (b+1)=b+1:=qo (Z) (Z)
  dsimp only
  generalize nth l b (zb zw)=c at *
  refine qk ⟨b0,h⟩ (xe (gD k2 (zg nofun λ_=>zh (za (xe (xv (zcK n c hv k1.2.2 b e _ _ _ _ a b3 b2) λz hz => ?_))))))
  obtain⟨z1,z2,z3⟩:=z
  obtain⟨c1,c2,c3⟩:=hz
  refine zh (za (zd ?_))
  dsimp only at c1 c2 c3 ⊢
  rw[hw,ht,qD,List.foldl_append]
  refine⟨⟨Z,Z,c2,by simpa using c1,?_,?_,?_,λhz => ?_⟩,Z⟩
  ·rw[c3]; split<;>omega
  ·rw[c3]; split<;>omega
  ·rw[c3]; split<;>omega
  ·rw[c3]at hz
   have he:e<0:=by split at hz<;>omega
   rw[List.map_singleton,z1j _ _ _ _ (Z) (b7 he)]
   split
   ·rfl
   ·rename_i hf
    rw[if_pos ⟨he,by simpa using hf⟩]at hz
    omega
 ·have h:=yT h
  have e2:l.take b.toNat=l:=zL (Z)
  rw[e2]at b7
  exact zh (za (zd ⟨b4,by dsimp only; omega,b7⟩))⟩
instance (l:List vR) (n:Int):Sp (p7 l n) (0<=n/\n<=64/\Ac n l) (λr=>r=true->G.UO id 0 (l.map vs) = -1):=⟨λh=>by unfold p7; exact gog⟩
open T PL
def mx(S:Int->Int)(v w:Int)(l:List Term):Int:=l.foldl (λw t=>if t.1=v then w else max w (S t.1)) w
theorem J1{S S':Int->Int}{v:Int}:∀ (l:List Term) (w:Int),(∀ t∈l,t.1≠v->S t.1=S' t.1)->mx S v w l=mx S' v w l
 | [],_,_=>rfl
 | t::r,w,h=>by
  show mx S v (if t.1=v then w else max w (S t.1)) r=mx S' v (if t.1=v then w else max w (S' t.1)) r
  rw[J1 r _ λu hu=>h u (zM _ hu)]
  by_cases e:t.1=v
  ·rw[if_pos e,if_pos e]
  ·rw[if_neg e,if_neg e,h t zV e]
abbrev di:Int:=zb (.int .i64)
structure Ch(n:Nat)(l:List vR)(o b:List Int):Prop where
 ac:Ac n l
 n1:1<=n
 n64:n<=64
 fr:G.UO id 0 (l.map vs) = -1
 ol:o.length=l.length
 bl:b.length=n
 oc:∀ i:Int,0<=i->i<l.length->nth o i di = -1\/(nth o i di∈vs (nth l i (zb zw))/\nth b (nth o i di) di=i)
 bc:∀ v:Int,0<=v->v<n->nth b v di = -1\/(0<=nth b v di/\nth b v di<l.length/\nth o (nth b v di) di=v)
theorem iI{c:vR}{v:Int}:v∈vs c↔∃ t∈c.2.1,t.1=v:=by unfold vs; simp
theorem Ch.vr{n:Nat}{l:List vR}{o b:List Int}(h:Ch n l o b){i:Int}(h0:0<=i)(h1:i<l.length){v:Int}(hv:v∈vs (nth l i (zb zw))):0<=v/\v<n:=by
 obtain⟨t,ht,rfl⟩:=iI.1 hv
 exact(h.ac.vc (by have:=h.n64; omega) (wa h0 h1)).2.2 t ht
theorem RO{l:List vR}{o:List Int}(hf:G.UO id 0 (l.map vs) = -1):∃ (rk:Int->Nat) (B:Nat),(∀ v,rk v<=B)/\∀ i:Int,0<=i->i<l.length->i<o.length->nth o i di∈vs (nth l i (zb zw))->∀ t∈vs (nth l i (zb zw)),t≠nth o i di->rk t<rk (nth o i di):=by
 obtain⟨rk,B,hB,hA⟩:=G.zmX (l.map vs) o id 0 (λ_=>0) 0 [] [] (Z) hf rfl (λ_=>zT _) (λc hc=>by cases hc) (λi h=>by cases h)
 simp only[List.nil_append]at hA
 refine⟨rk,B,hB,λi h0 h1 X hm t ht ki => ?_⟩
 obtain⟨k,rfl⟩:=M h0
 have hk:k<l.length:=Z
 have Yv:k<o.length:=Z
 have e1:nth o (k:Int) di=o[k]:=by simp[nth,Yv]
 have e2:nth l (k:Int) (zb zw)=l[k]:=by simp[nth,hk]
 rw[e1]at hm ki ⊢
 rw[e2]at hm ht
 exact hA k (by simpa using hk) Yv (by simpa using hm) t (by simpa using ht) ki
def sN(l:List vR)(b:List Int):Nat->Int->Int
 | 0,_=>4
 | k+1,v=>if nth b v di = -1 then 4 else mx (sN l b k) v (nth l (nth b v di) (zb zw)).1 (nth l (nth b v di) (zb zw)).2.1
def Sg(n:Nat)(l:List vR)(b:List Int)(S:Int->Int):Prop:=∀ v:Int,0<=v->v<n->S v=if nth b v di = -1 then 4 else mx S v (nth l (nth b v di) (zb zw)).1 (nth l (nth b v di) (zb zw)).2.1
def Rk(n:Nat)(l:List vR)(b:List Int)(rk:Int->Nat):Prop:=∀ v:Int,0<=v->v<n->nth b v di ≠ -1->∀ t∈vs (nth l (nth b v di) (zb zw)),t≠v->rk t<rk v
theorem Ch.rk{n:Nat}{l:List vR}{o b:List Int}(h:Ch n l o b):∃ (rk:Int->Nat) (B:Nat),(∀ v,rk v<=B)/\Rk n l b rk:=by
 obtain⟨rk,B,hB,hr⟩:=RO (o:=o) h.fr
 refine⟨rk,B,hB,λv h0 h1 I t ht ki => ?_⟩
 rcases h.bc v h0 h1 with e | ⟨b0,b1,b2⟩
 ·exact absurd e I
 ·have hm:nth o (nth b v di) di∈vs (nth l (nth b v di) (zb zw)):=by
   rcases h.oc _ b0 b1 with e | e
   ·rw[e]at b2; omega
   ·exact e.1
  have:=hr _ b0 b1 (by rw[h.ol]; exact b1) hm t ht (by rw[b2]; exact ki)
  rwa [b2]at this
theorem Ch.sg{n:Nat}{l:List vR}{o b:List Int}(h:Ch n l o b):∃ S,Sg n l b S:=by
 obtain⟨rk,B,hB,hr⟩:=h.rk
 have more:∀ (k:Nat) (v:Int),0<=v->v<n->rk v<k->sN l b (k+1) v=sN l b k v:=by
  intro k
  induction k with
  | zero=>intro v _ _ hk; omega
  | succ k ih =>
   intro v h0 h1 hk
   show(if nth b v di = -1 then 4 else _)=(if nth b v di = -1 then 4 else _)
   by_cases e:nth b v di = -1
   ·rw[if_pos e,if_pos e]
   ·rw[if_neg e,if_neg e]
    refine J1 _ _ λt ht ki => ?_
    have hm:t.1∈vs (nth l (nth b v di) (zb zw)):=iI.2 ⟨t,ht,rfl⟩
    rcases h.bc v h0 h1 with e' | ⟨b0,b1,_⟩
    ·exact absurd e' e
    ·have hv:=h.vr b0 b1 hm
     exact ih t.1 hv.1 hv.2 (by have:=hr v h0 h1 e t.1 hm ki; omega)
 refine⟨sN l b (B+1),λv h0 h1 => ?_⟩
 rw[<- more (B+1) v h0 h1 (by have:=hB v; omega)]
 rfl
open T PL
theorem z19{α:Type}(l:List α)(i:Int)(d:α)(h0:0<=i)(h:i<l.length):l.drop i.toNat=nth l i d::l.drop (i+1).toNat:=by
 have e:(i+1).toNat=i.toNat+1:=Z
 rw[zY (Z),e]
 unfold nth
 simp[zA,show i.toNat<l.length by omega]
theorem z9U(a b:Int):dZ a b=max a b:=by unfold dZ; split<;>omega
theorem CB{n:Nat}{l:List vR}{o b:List Int}(h:Ch n l o b){S:Int->Int}(hS:Sg n l b S){rk:Int->Nat}(hr:Rk n l b rk)(v:Int)(hv:0<=v/\v<n) :
  (jP v (l,()) o b).wp λr=>r=(S v,(l,()),o,b):=by
 unfold jP
 refine sM (x:=(v,(l,()),o,b)) (σ:=Int×(List vR×Unit)×List Int×List Int) (ρ:=Int×(List vR×Unit)×List Int×List Int) (λ(v,c,x,y)=>(c=(l,())/\x=o/\y=b)/\0<=v/\v<n) (λ(v,_)=>rk v) (λ(v,_) r=>r=(S v,(l,()),o,b)) ?_ ?_ ⟨⟨rfl,rfl,rfl⟩,hv⟩
 ·intro g g' hg x
  unfold jc gY kl
  exact mono
 ·rintro⟨v,c,x,y⟩ ⟨⟨rfl,rfl,rfl⟩,hv⟩ g hg
  dsimp only at hg hv ⊢
  unfold jc
  simp only[s6]
  have hs:=hS v hv.1 hv.2
  refine qk ⟨hv.1,by rw[h.bl]; exact hv.2⟩ (zc ⟨rfl,by rw[h.bl]; omega⟩ (zg (λe => ?_) λe => ?_))
  ·rw[if_pos (by simpa using e)]at hs
   exact zh (zh (za (za (zd (by rw[hs])))))
  ·have e:¬ nth y v di = -1:=by simpa using e
   rw[if_neg e]at hs
   rcases h.bc v hv.1 hv.2 with k | ⟨b0,b1,_⟩
   ·exact absurd k e
   have Ez:=hr v hv.1 hv.2 e
   have hvr:=λt ht=>h.vr b0 b1 (v:=t) ht
   have hlen:(nth l (nth y v di) (zb zw)).2.1.length<=1000:=(h.ac.2 _ (wa b0 b1)).1.2.2
   generalize hc:nth l (nth y v di) (zb zw)=c at *
   refine qk ⟨b0,b1⟩ (qk ⟨b0,b1⟩ (zh (zh (za (za (xe ?_))))))
   refine xv (P:=λz=>z=(S v,(l,()),x,y)) ?_ λz hz=>by subst hz; exact zh (zh (za (za (zd rfl))))
   unfold gY
   refine vx (σ:=Int×Int×(List vR×Unit)×List Int×List Int) (λ(f,i,q,a,d)=>(q=(l,())/\a=x/\d=y)/\0<=i/\i<=c.2.1.length/\mx S v f (c.2.1.drop i.toNat)=S v) (λ(_,i,_)=>(c.2.1.length-i).toNat) ⟨⟨rfl,rfl,rfl⟩,Z,Z,hs.symm⟩ ?_
   rintro⟨f,i,q,a,d⟩ ⟨⟨rfl,rfl,rfl⟩,i0,i1,hm⟩
   unfold kl
   refine zg (λhi => ?_) λhi => ?_
   ·have hi:=uf hi
    rw[z19 _ _ (zb qq) i0 hi]at hm
    have ht:=wa (d:=zb qq) i0 hi
    have hw:qj (i+1)=i+1:=qo (Z) (Z)
    dsimp only
    generalize nth c.2.1 i (zb qq)=t at *
    have hm:mx S v (if t.1=v then f else max f (S t.1)) (c.2.1.drop (i+1).toNat)=S v:=hm
    have htv:t.1∈vs c:=iI.2 ⟨t,ht,rfl⟩
    refine qk ⟨i0,hi⟩ (zg (λe => ?_) λe => ?_)
    ·have e:t.1≠v:=by simpa using e
     rw[if_neg e]at hm
     refine zh (zh (za (za (xe (xv (hg (t.1,(l,()),a,d) ⟨⟨rfl,rfl,rfl⟩,hvr _ htv⟩ (Ez _ htv e)) λz hz => ?_)))))
     subst hz
     refine zh (zh (za (za (zd ?_))))
     rw[hw,z9U]
     refine⟨⟨⟨rfl,rfl,rfl⟩,?_,?_,hm⟩,?_⟩<;>clear hs Ez hvr hm<;>simp only<;>omega
    ·have e:t.1=v:=by simpa using e
     rw[if_pos e]at hm
     refine zh (zh (za (za (zd ?_))))
     rw[hw]
     refine⟨⟨⟨rfl,rfl,rfl⟩,?_,?_,hm⟩,?_⟩<;>clear hs Ez hvr hm<;>simp only<;>omega
   ·have hi:=yT hi
    rw[qC (Z)]at hm
    exact zh (zh (za (za (zd (by have:f=S v:=hm; rw[this])))))
def Wk1(S:Int->Int)(taken:List Int)(w:Int)(l:List Term)(j:Int):Prop:=(j = -1/\∀ t∈l,t.1∈taken\/S t.1<=w)\/((∃ t∈l,t.1=j)/\j ∉ taken/\w<S j/\∀ t∈l,t.1∈taken\/S t.1<=S j)
theorem Nb{n:Nat}{l:List vR}{o b:List Int}(h:Ch n l o b){S:Int->Int}(hS:Sg n l b S){rk:Int->Nat}(hr:Rk n l b rk)(i:Int)(hi:0<=i/\i<l.length)(q:List Int) :
  (yi i (l,()) q o b).wp λr=>r.2=((l,()),q,o,b)/\Wk1 S q (nth l i (zb zw)).1 (nth l i (zb zw)).2.1 r.1:=by
 unfold yi
 have hvr:=λt ht=>h.vr hi.1 hi.2 (v:=t) ht
 have hlen:(nth l i (zb zw)).2.1.length<=1000:=(h.ac.2 _ (wa hi.1 hi.2)).1.2.2
 dsimp only
 generalize nth l i (zb zw)=c at *
 refine qk hi (qk hi (zh (zh (za (za (xe ?_))))))
 refine xv (P:=λz=>z.2=((l,()),q,o,b)/\Wk1 S q c.1 c.2.1 z.1) ?_ λz hz=>by
  obtain⟨z1,z2⟩:=z
  obtain⟨rfl,hz⟩:=hz
  exact zh (zh (za (za (zd ⟨rfl,hz⟩))))
 unfold en
 refine vx (σ:=Int×Int×Int×(List vR×Unit)×List Int×List Int×List Int) (λ(j,k,i,q',g,a,d)=>(q'=(l,())/\g=q/\a=o/\d=b)/\0<=i/\i<=c.2.1.length/\(j = -1/\k=c.1\/j ≠ -1/\k=S j)/\Wk1 S q c.1 (c.2.1.take i.toNat) j) (λ(_,_,i,_)=>(c.2.1.length-i).toNat)
  ⟨⟨rfl,rfl,rfl,rfl⟩,Z,Z,.inl ⟨rfl,rfl⟩,.inl ⟨rfl,λt ht=>by simp at ht⟩⟩ ?_
 rintro⟨j,k,i,q',g,a,d⟩ ⟨⟨rfl,rfl,rfl,rfl⟩,i0,i1,hk,hw⟩
 unfold gv
 refine zg (λhi => ?_) λhi => ?_
 ·have hi:=uf hi
  have ht:=wa (d:=zb qq) i0 hi
  have hts:=ef c.2.1 i (zb qq) i0 hi
  have hwi:qj (i+1)=i+1:=qo (Z) (Z)
  dsimp only
  generalize nth c.2.1 i (zb qq)=t at *
  have htr:=hvr _ (iI.2 ⟨t,ht,rfl⟩)
  refine qk ⟨i0,hi⟩ (zh (zh (za (za (xe (xv (CB h hS hr t.1 htr) λz hz => ?_))))))
  subst hz
  have hwf:wfI t.1:=by
   have:=h.n64
   have:=htr.1
   have:=htr.2
   show(decide (-9223372036854775808<=t.1)&&decide (t.1<=9223372036854775807))=true
   rw[zU,decide_eq_true_eq,decide_eq_true_eq]; exact⟨zP (xo) htr.1,zP (qB htr.2) (Z)⟩
  refine zc hwf (zg (λe=>zh (zh (za (za (zd ?_))))) λe=>zh (zh (za (za (zd ?_)))))
  ·simp only[zU,Bool.not_eq_true',decide_eq_true_eq,zW,decide_eq_false_iff_not]at e
   rw[hwi]
   have zuT:=htr.1
   have e2:=e.2
   refine⟨⟨⟨rfl,rfl,rfl,rfl⟩,by simp only; omega,by simp only; omega,.inr ⟨by simp only; omega,rfl⟩,?_⟩,by simp only; omega⟩
   show Wk1 S g c.1 (c.2.1.take (i+1).toNat) t.1
   rw[hts]
   refine .inr ⟨⟨t,qp,rfl⟩,e.1,?_,λu hu => ?_⟩
   ·rcases hk with⟨_,hk⟩ | ⟨hj,hk⟩
    ·omega
    ·rcases hw with hw | hw
     ·exact absurd hw.1 hj
     ·have:=hw.2.2.1; omega
   ·rcases zG.1 hu with hu | hu
    ·rcases hk with⟨hj,hk⟩ | ⟨hj,hk⟩
     ·rcases hw with hw | hw
      ·exact(hw.2 u hu).imp_right λx=>Z
      ·obtain⟨u',Tj,e'⟩:=hw.1
       exfalso
       have:=hvr _ (iI.2 ⟨u',zF Tj,rfl⟩)
       have e3:u'.1=j:=e'
       have e4:j = -1:=hj
       rw[e3,e4]at this
       exact absurd this.1 (xo)
     ·rcases hw with hw | hw
      ·exact absurd hw.1 hj
      ·exact(hw.2.2.2 u hu).imp_right λx=>Z
    ·rw[zE.1 hu]; exact .inr (qH _)
  ·simp only[Bool.and_eq_false_iff,Bool.not_eq_false',decide_eq_false_iff_not,zW,decide_eq_true_eq]at e
   rw[hwi]
   refine⟨⟨⟨rfl,rfl,rfl,rfl⟩,by simp only; omega,by simp only; omega,hk,?_⟩,by simp only; omega⟩
   show Wk1 S g c.1 (c.2.1.take (i+1).toNat) j
   rw[hts]
   rcases hw with hw | hw
   ·refine .inl ⟨hw.1,λu hu => ?_⟩
    rcases zG.1 hu with hu | hu
    ·exact hw.2 u hu
    ·rw[zE.1 hu]
     rcases hk with hk | hk
     ·exact e.imp_right λx=>Z
     ·exact absurd hw.1 hk.1
   ·refine .inr ⟨by obtain⟨u,hu,e'⟩:=hw.1; exact⟨u,by simp[hu],e'⟩,hw.2.1,hw.2.2.1,λu hu => ?_⟩
    rcases zG.1 hu with hu | hu
    ·exact hw.2.2.2 u hu
    ·rw[zE.1 hu]
     rcases hk with hk | hk
     ·obtain⟨u',Tj,e'⟩:=hw.1
      exfalso
      have:=hvr _ (iI.2 ⟨u',zF Tj,rfl⟩)
      have e3:u'.1=j:=e'
      have e4:j = -1:=hk.1
      rw[e3,e4]at this
      exact absurd this.1 (xo)
     ·exact e.imp_right λx=>Z
 ·have hi:=yT hi
  rw[zL (Z)]at hw
  exact zh (zh (za (za (zd ⟨rfl,hw⟩))))
open T PL
abbrev tr(l:List vR)(i:Int):Int:=(nth l i (zb zw)).1
abbrev tm(l:List vR)(i:Int):List Term:=(nth l i (zb zw)).2.1
abbrev vl(l:List vR)(i:Int):List Int:=vs (nth l i (zb zw))
def sR:List vR->List Int->Int
 | c::l,w::o=>(if w = -1 then 0 else 5-c.1)+sR l o
 | _,_=>0
theorem DZ:∀ (l:List vR) (o:List Int) (k:Nat) (w:Int),k<l.length->k<o.length->sR l (o.set k w)=sR l o+(if w = -1 then 0 else 5-(l.getD k (zb zw)).1)-(if o.getD k di = -1 then 0 else 5-(l.getD k (zb zw)).1)
 | c::l,x::o,0,w,_,_=>by simp only[List.set_cons_zero,sR,List.getD_cons_zero]; omega
 | c::l,x::o,k+1,w,h,h'=>by
  have:=DZ l o k w (by simpa using h) (by simpa using h')
  simp only[List.set_cons_succ,sR,List.getD_cons_succ]
  omega
theorem z4d:∀ (l:List vR) (o:List Int),(∀ c∈l,0<=c.1/\c.1<=4)->0<=sR l o/\sR l o<=5*l.length
 | [],[],_ | [],_::_,_ | _::_,[],_=>by simp only[sR,qI]; omega
 | c::l,x::o,h=>by
  have h1:=z4d l o λc hc=>h c (zM _ hc)
  obtain⟨X,h3⟩:=h c zV
  have X:(0:Int)<=c.1:=X
  have h3:(4:Int) >= c.1:=h3
  simp only[sR,List.length_cons]
  split<;>omega
theorem U0{α:Type}{l:List α}{i j:Int}{x d:α}(h0:0<=i)(h1:i<l.length)(h:0<=j):nth (l.set (0+i.toNat) x) j d=if j=i then x else nth l j d:=by
 unfold nth
 rw[zA,List.getElem?_set,zA]
 by_cases e:j=i
 ·rw[if_pos (Z),if_pos (Z),if_pos e]; rfl
 ·rw[if_neg (Z),if_neg e]
theorem z0V{p q:Nat->Bool}{a:Nat}:∀ (l:List Nat),(∀ x,q x=true->p x=true)->a∈l->p a=true->q a=false->l.countP q<l.countP p
 | x::l,h,ha,h1,X=>by
  rw[List.countP_cons,List.countP_cons]
  have hle:l.countP q<=l.countP p:=List.countP_mono_left λx _=>h x
  rcases zR.1 ha with rfl | hm
  ·rw[h1,X]; simp only[if_true,Bool.false_eq_true,if_false]; exact Nat.lt_succ_of_le hle
  ·have:=z0V l h hm h1 X
   cases hq:q x
   ·rw[if_neg (xo)]; omega
   ·rw[h x hq,if_pos rfl]; omega
def un(n:Nat)(s:List Int):Nat:=(List.range n).countP λ(v:Nat) => !s.contains (v:Int)
theorem zna{n:Nat}{s s':List Int}{j:Int}(hs:∀ x∈s,x∈s')(h:j∈s')(h':j ∉ s)(h0:0<=j)(h1:j<n):un n s'<un n s:=by
 obtain⟨k,rfl⟩:=M h0
 refine z0V (a:=k) _ (λx N => ?_) (List.mem_range.2 (Z)) (by simpa using h') (by simpa using h)
 simp only[Bool.not_eq_true',zW,decide_eq_false_iff_not]at N ⊢
 exact λk=>N (hs _ k)
theorem z3z{S:Int->Int}{v zC:Int}:∀ (l:List Term) (w:Int),w<=zC->(∀ t∈l,t.1≠v->S t.1<=zC)->mx S v w l<=zC
 | [],_,h,_=>h
 | t::r,w,h,k=>by
  refine z3z r _ ?_ λu hu=>k u (zM _ hu)
  dsimp only
  split
  ·exact h
  ·have:=k t zV ‹_›
   omega
section
variable {n:Nat} {l:List vR} {o b o2 b2:List Int} {c j:Int}
theorem Ch.step(h:Ch n l o b)(c0:0<=c)(c1:c<l.length)(ho:nth o c di = -1)(hj:j∈vl l c)(l2:o2.length=l.length)
  (e2:∀ k:Int,0<=k->k<l.length->nth o2 k di=if k=c then j else if k=nth b j di then -1 else nth o k di) (l3:b2.length=n) (e3:∀ v:Int,0<=v->nth b2 v di=if v=j then c else nth b v di):Ch n l o2 b2:=by
 have Eu:=h.vr c0 c1 hj
 have hbj:=h.bc j Eu.1 Eu.2
 refine⟨h.ac,h.n1,h.n64,h.fr,l2,l3,λi i0 i1 => ?_,λv v0 v1 => ?_⟩
 ·rw[e2 i i0 i1]
  by_cases k:i=c
  ·rw[if_pos k,e3 j Eu.1,if_pos rfl,k]; exact .inr ⟨hj,rfl⟩
  ·rw[if_neg k]
   by_cases k':i=nth b j di
   ·rw[if_pos k']; exact .inl rfl
   ·rw[if_neg k']
    refine(h.oc i i0 i1).imp_right λ⟨m,e⟩=>⟨m,?_⟩
    rw[e3 _ (h.vr i0 i1 m).1,if_neg (λx=>k' (by rw[<- x,e]))]
    exact e
 ·rw[e3 v v0]
  by_cases k:v=j
  ·rw[if_pos k,e2 c c0 c1,if_pos rfl]; exact .inr ⟨c0,c1,k.symm⟩
  ·rw[if_neg k]
   refine(h.bc v v0 v1).imp_right λ⟨b0,b1,e⟩=>⟨b0,b1,?_⟩
   rw[e2 _ b0 b1,if_neg (λx=>by rw[x,ho]at e; omega),if_neg (λx => ?_)]
   ·exact e
   ·rcases hbj with y | y
    ·rw[x,y]at b0; exact absurd b0 (xo)
    ·exact k (by rw[<- e,x,y.2.2])
theorem zaA(h:Ch n l o b){rk:Int->Nat}(hr:Rk n l b rk){S S':Int->Int}(hS:Sg n l b S)(e3:∀ v:Int,0<=v->nth b2 v di=if v=j then c else nth b v di)(hS':Sg n l b2 S') :
  ∀ (k:Nat) (u:Int),0<=u->u<n->rk u<k->rk u<rk j->S' u=S u:=by
 intro k
 induction k with
 | zero=>intro u _ _ h; omega
 | succ k ih =>
  intro u u0 u1 hk hj
  have e:nth b2 u di=nth b u di:=by rw[e3 u u0,if_neg (λx=>by rw[x]at hj; omega)]
  rw[hS' u u0 u1,hS u u0 u1,e]
  by_cases x:nth b u di = -1
  ·rw[if_pos x,if_pos x]
  ·rw[if_neg x,if_neg x]
   refine J1 _ _ λt ht ki => ?_
   have hm:=iI.2 ⟨t,ht,rfl⟩
   rcases h.bc u u0 u1 with y | ⟨b0,b1,_⟩
   ·exact absurd y x
   ·have hv:=h.vr b0 b1 hm
    have:=hr u u0 u1 x t.1 hm ki
    exact ih t.1 hv.1 hv.2 (Z) (Z)
def TK(l:List vR)(o s:List Int)(v:Int):Prop:=∀ rk:Int->Nat,(∀ m:Int,0<=m->m<l.length->nth o m di∈s->∀ t∈vl l m,t≠nth o m di->rk t<rk (nth o m di))->∀ u∈s,rk u<=rk v
theorem TK.free{s:List Int}{v:Int}(k:TK l o s v)(h:Ch n l o b)(hs:∀ x∈s,0<=x/\x<n)(c0:0<=c)(c1:c<l.length)(ho:nth o c di = -1)(hv:v∈vl l c){t:Int}(ht:t∈vl l c)(ki:t≠v):t ∉ s:=λhts=>by
 obtain⟨rk,B,_,hr⟩:=RO (o:=o.set (0+c.toNat) t) h.fr
 have hol:=h.ol
 have hc:nth (o.set (0+c.toNat) t) c di=t:=by rw[U0 c0 (Z) c0,if_pos rfl]
 have h1:=hr c c0 c1 (by rw[List.length_set]; omega) (by rw[hc]; exact ht) v hv (by rw[hc]; exact ki.symm)
 rw[hc]at h1
 have X:=k rk (λm m0 m1 hm u hu ki => ?_) t hts
 ·omega
 ·have hmc:m≠c:=λx=>by rw[x,ho]at hm; exact absurd (hs _ hm).1 (xo)
  have e:nth (o.set (0+c.toNat) t) m di=nth o m di:=by rw[U0 c0 (Z) m0,if_neg hmc]
  have:=hr m m0 m1 (by rw[List.length_set]; omega)
  rw[e]at this
  refine this ?_ u hu ki
  rcases h.oc m m0 m1 with x | x
  ·rw[x]at hm; exact absurd (hs _ hm).1 (xo)
  ·exact x.1
theorem TK.step{s:List Int}(h:Ch n l o b)(hs:∀ x∈s,0<=x/\x<n)(c0:0<=c)(c1:c<l.length)(ho:nth o c di = -1)(hj:j∈vl l c)(hjs:j ∉ s)
  (e2:∀ k:Int,0<=k->k<l.length->nth o2 k di=if k=c then j else if k=nth b j di then -1 else nth o k di) (hk:s=[]\/∃ v∈vl l c,TK l o s v):TK l o2 (s++vl l c) j:=λrk hrk=>by
 have hc:∀ t∈vl l c,rk t<=rk j:=λt ht=>by
  by_cases e:t=j
  ·rw[e]; exact zT _
  ·have:=hrk c c0 c1
   rw[e2 c c0 c1,if_pos rfl]at this
   exact Nat.le_of_lt (this (qF _ hj) t ht e)
 intro u hu
 rcases zG.1 hu with hu | hu
 ·rcases hk with rfl | ⟨v,hv,hk⟩
  ·cases hu
  ·refine Y (hk rk (λm m0 m1 hm => ?_) u hu) (hc v hv)
   have hmc:m≠c:=λx=>by rw[x,ho]at hm; exact absurd (hs _ hm).1 (xo)
   have hmb:m≠nth b j di:=λx=>by
    have Eu:=h.vr c0 c1 hj
    rcases h.bc j Eu.1 Eu.2 with y | y
    ·rw[x,y]at m0; exact absurd m0 (xo)
    ·rw[x,y.2.2]at hm; exact hjs hm
   have:=hrk m m0 m1
   rw[e2 m m0 m1,if_neg hmc,if_neg hmb]at this
   exact this (qJ _ hm)
 ·exact hc u hu
end
theorem zc2{t:Int}(h : -9223372036854775808<=t)(h':t<=9223372036854775807):wfI t:=by
 show(decide (-9223372036854775808<=t)&&decide (t<=9223372036854775807))=true
 rw[zU,decide_eq_true_eq,decide_eq_true_eq]
 exact⟨h,h'⟩
theorem z1a(p:Int)(e:List Term)(L:List vR)(o b s:List Int)(he:∀ t∈e,0<=t.1/\t.1<64)(R:s.length+e.length<=4294967295) :
  (yL p e (Nat.cast (qI e):Int) (0,((L,()),(o,(b,s))))).wp λr=>r=((L,()),o,b,s++e.map (·.1)):=by
 unfold yL
 refine vx (σ:=Int×(List vR×Unit)×List Int×List Int×List Int) (λ(i,q,x,y,z)=>(q=(L,())/\x=o/\y=b/\z=s++(e.take i.toNat).map (·.1))/\0<=i/\i<=e.length) (λ(i,_)=>(e.length-i).toNat) ⟨⟨rfl,rfl,rfl,qp⟩,Z,Z⟩ ?_
 rintro⟨i,q,x,y,z⟩ ⟨⟨rfl,rfl,rfl,rfl⟩,i0,i1⟩
 unfold yN
 refine zg (λhi => ?_) λhi => ?_
 ·have hi:=uf hi
  have ht:=he _ (wa (d:=zb qq) i0 hi)
  have hts:=ef e i (zb qq) i0 hi
  have hwi:qj (i+1)=i+1:=qo (Z) (Z)
  refine qk ⟨i0,hi⟩ (zc ⟨rfl,?_,?_⟩ (zh (zh (za (za (zd ?_))))))
  ·exact zc2 (zP (xo) ht.1) (zP (qB ht.2) (xo))
  ·rw[List.length_append,List.length_map,zH]; omega
  ·rw[hwi]
   refine⟨⟨⟨rfl,rfl,rfl,?_⟩,Z,Z⟩,by simp only; omega⟩
   rw[hts,qD,List.append_assoc]
   rfl
 ·have hi:=yT hi
  rw[zL (Z)]
  exact zh (zh (za (za (zd rfl))))
theorem zcO{n:Nat}{l:List vR}{o b:List Int}(h:Ch n l o b){c:Int}(hc:0<=c/\c<l.length)(ho:nth o c di = -1) :
  (kS c (l,()) o b).wp λr=>r.1=(l,())/\Ch n l r.2.1 r.2.2/\(r.2.1=o/\r.2.2=b\/sR l o<sR l r.2.1):=by
 unfold kS dr
 have hn:=h.n64
 refine zh (zh (za (za (xe (xv (P:=λz=>z.elim (λ(p,x,y,_)=>p=(l,())/\Ch n l x y/\(x=o/\y=b\/sR l o<sR l x)) (λ(p,x,y,_)=>p=(l,())/\Ch n l x y/\(x=o/\y=b\/sR l o<sR l x))) ?_ λz hz => ?_)))))
 case refine_2 =>
  rcases z with⟨p,x,y,s⟩ | ⟨p,x,y,s⟩<;>obtain⟨rfl,hz⟩:=hz<;>exact zh (zh (za (za (zd ⟨rfl,hz⟩))))
 refine vx (σ:=Int×(List vR×Unit)×List Int×List Int×List Int) (λ(i,p,x,y,s)=>p=(l,())/\Ch n l x y/\(∀ u∈s,0<=u/\u<n)/\s.length+1000*un n s<=1000*n /\
   (i = -1/\sR l o<sR l x\/(0<=i/\i<l.length/\nth x i di = -1)/\(i=c/\x=o/\y=b/\s=[]\/∃ (v zC:Int),v∈vl l i/\TK l x s v/\tr l c<zC/\sR l x=sR l o+tr l i-tr l c/\∀ S,Sg n l y S->zC<=mx S v (tr l i) (tm l i))))
  (λ(_,_,_,_,s)=>un n s) ⟨rfl,h,nofun,?_,.inr ⟨⟨hc.1,hc.2,ho⟩,.inl ⟨rfl,rfl,rfl,rfl⟩⟩⟩ ?_
 ·have:un n []<=n:=Y qE (by rw[List.length_range]; exact zT _)
  simp only[List.length_nil]; omega
 rintro⟨i,p,x,y,s⟩ ⟨rfl,hC,hs,R,hI⟩
 unfold yM
 simp only[s6]
 refine zg (λhi => ?_) λhi => ?_
 ·have hi:i ≠ -1:=by simpa using hi
  obtain⟨⟨i0,i1,N⟩,hI⟩:=hI.resolve_left λk=>hi k.1
  obtain⟨S,hS⟩:=hC.sg
  obtain⟨rk,B,_,hr⟩:=hC.rk
  refine zh (zh (za (za (xe (xv (Nb hC hS hr i ⟨i0,i1⟩ s) ?_)))))
  rintro⟨j,q⟩ ⟨rfl,hw⟩
  dsimp only
  have hw:Wk1 S s (tr l i) (tm l i) j:=hw
  have mem:∀ t∈tm l i,t.1∈vl l i:=λt ht=>iI.2 ⟨t,ht,rfl⟩
  refine zg (λe => ?_) λe => ?_
  ·have e:j = -1:=by simpa using e
   refine zh (zh (za (za (zd ⟨rfl,hC,?_⟩))))
   rcases hI with⟨_,h1,X,_⟩ | ⟨v,zC,hv,hk,hM,hp,hm⟩
   ·exact .inl ⟨h1,X⟩
   ·have h1:=hm S hS
    have X:mx S v (tr l i) (tm l i)<=tr l i:=z3z _ _ (qH _) λt ht ki=>by
     rcases hw with hw | ⟨⟨u,hu,e'⟩,_⟩
     ·exact(hw.2 t ht).resolve_left (hk.free hC hs i0 i1 N hv (mem t ht) ki)
     ·have:=hC.vr i0 i1 (mem u hu)
      rw[e',e]at this
      exact absurd this.1 (xo)
    exact .inr (by show sR l o<sR l x; omega)
  ·have e:j ≠ -1:=by simpa using e
   obtain⟨⟨t,ht,htj⟩,hjs,wO,hmax⟩:=hw.resolve_left λk=>e k.1
   have hj:j∈vl l i:=htj▸mem t ht
   have Eu:=hC.vr i0 i1 hj
   have hbj:=hC.bc j Eu.1 Eu.2
   have hol:=hC.ol
   have hbl:=hC.bl
   have hVC:=hC.ac.vc (Z) (wa (d:=zb zw) i0 i1)
   have htm:(tm l i).length<=1000:=(hC.ac.2 _ (wa i0 i1)).1.2.2
   have hun:un n (s++vl l i)<un n s:=zna (λu hu=>qJ _ hu) (qF _ hj) hjs Eu.1 Eu.2
   refine qk ⟨Eu.1,Z⟩ (zc ⟨rfl,Z⟩ (xe (xv (P:=λz=>∃ o1,z=((l,()),o1,y,s)/\o1.length=x.length/\(∀ k:Int,0<=k->k<l.length->nth o1 k di=if k=nth y j di then -1 else nth x k di)/\sR l o1=sR l x-if nth y j di = -1 then 0 else 5-tr l (nth y j di)) ?_ ?_)))
   ·refine zg (λe => ?_) λe => ?_
    ·have e:nth y j di ≠ -1:=by simpa using e
     obtain⟨b0,b1,b2⟩:=hbj.resolve_left e
     have hbi:nth y j di<x.length:=Z
     have hbx:0+(nth y j di).toNat<x.length:=Z
     refine qk ⟨b0,hbi⟩ (zc ⟨rfl,hbx⟩ (zc ⟨by rw[List.length_set],rfl,by rw[List.length_set]⟩ (zh (zc (by rw[List.length_set]) (za (zd ⟨_,rfl,by rw[List.length_set],λk k0 k1=>U0 b0 hbi k0,?_⟩))))))
     have:=DZ l x (0+(nth y j di).toNat) (-1) (Z) (Z)
     rw[this,if_pos rfl,if_neg e,if_neg (show ¬ x.getD (0+(nth y j di).toNat) di = -1 by
      have:x.getD (0+(nth y j di).toNat) di=j:=by rw[Nat.zero_add]; exact b2
      rw[this]; omega),Nat.zero_add]
     show sR l x+0-(5-tr l (nth y j di))=_
     omega
    ·have e:nth y j di = -1:=by simpa using e
     exact zh (zh (za (za (zd ⟨x,rfl,rfl,λk k0 k1=>by rw[e,if_neg (Z)],by rw[if_pos e]; omega⟩))))
   ·rintro _ ⟨o1,rfl,hl1,he1,hp1⟩
    dsimp only
    have e2:∀ k:Int,0<=k->k<l.length->nth (o1.set (0+i.toNat) j) k di=if k=i then j else if k=nth y j di then -1 else nth x k di:=λk k0 k1=>by rw[U0 i0 (Z) k0,he1 k k0 k1]
    have e3:∀ v:Int,0<=v->nth (y.set (0+j.toNat) i) v di=if v=j then i else nth y v di:=λv v0=>U0 Eu.1 (Z) v0
    have hib:i≠nth y j di:=λk=>by
     rcases hbj with k' | ⟨_,_,k'⟩
     ·omega
     ·rw[<- k,N]at k'; omega
    have hp2:sR l (o1.set (0+i.toNat) j)=sR l o1+(5-tr l i):=by
     have:=DZ l o1 (0+i.toNat) j (Z) (Z)
     rw[this,if_neg e,if_pos (show o1.getD (0+i.toNat) di = -1 by
      rw[Nat.zero_add]; exact(he1 i i0 i1).trans (by rw[if_neg hib,N])),Nat.zero_add]
     show _+(5-tr l i)-0=_
     omega
    have hsl:s.length+(tm l i).length<=4294967295:=Z
    refine qk ⟨i0,Z⟩ (zc ⟨rfl,Z⟩ (qk ⟨Eu.1,Z⟩ (zc ⟨rfl,Z⟩ (qk ⟨i0,i1⟩ (zc ⟨by rw[List.length_set],rfl,by rw[List.length_set]⟩ (zc ⟨by rw[List.length_set],rfl,by rw[List.length_set]⟩ (zc (by rw[List.length_set]) (zc (by rw[List.length_set]) (xe (xv (z1a _ _ l _ _ s ?_ ?_) ?_))))))))))
    ·exact λt ht=>by
      have:=hVC.2.2 t ht
      exact⟨this.1,Int.lt_of_lt_of_le this.2 (Z)⟩
    ·exact hsl
    rintro _ rfl
    have hC2:=hC.step i0 i1 N hj (by rw[List.length_set]; omega) e2 (by rw[List.length_set]; omega) e3
    have ztQ:(0:Int)<=tr l i:=hVC.1
    have ztR:(4:Int) >= tr l i:=hVC.2.1
    refine zh (zh (za (za (zd ⟨⟨rfl,hC2,λu hu=>(zG.1 hu).elim (hs u) λk=>hC.vr i0 i1 k,?_,?_⟩,hun⟩))))
    ·show(s++vl l i).length+1000*un n (s++vl l i)<=_
     have:(vl l i).length<=1000:=by unfold vl vs; rw[List.length_map]; exact htm
     rw[List.length_append]; omega
    ·have hM:∃ zC:Int,tr l c<zC/\zC<=S j/\sR l x=sR l o+(if nth o i di = -1/\x=o/\i=c then 0 else tr l i-tr l c):=by
      rcases hI with⟨h1,X,_,_⟩ | ⟨v,zC,hv,hk,hM,hp,hm⟩
      ·exact⟨S j,h1▸wO,qH _,by rw[if_pos ⟨X▸N,X,h1⟩,X]; omega⟩
      ·refine⟨zC,hM,zP (hm S hS) (z3z _ _ (qB wO) λt ht ki=>(hmax t ht).resolve_left (hk.free hC hs i0 i1 N hv (mem t ht) ki)),?_⟩
       rw[hp]
       split
       ·rename_i k; rw[k.2.2]; omega
       ·omega
     obtain⟨zC,hM,hMj,hpx⟩:=hM
     have hpx:sR l x=sR l o+tr l i-tr l c:=by
      rw[hpx]
      split
      ·rename_i k; rw[k.2.2]; omega
      ·omega
     by_cases e':nth y j di = -1
     ·rw[if_pos e']at hp1
      refine .inl ⟨e',?_⟩
      have:tr l c<=4:=(h.ac.vc (Z) (wa (d:=zb zw) hc.1 hc.2)).2.1
      show sR l o<sR l (o1.set (0+i.toNat) j)
      omega
     ·rw[if_neg e']at hp1
      obtain⟨b0,b1,b2⟩:=hbj.resolve_left e'
      have hjv:j∈vl l (nth y j di):=by
       rcases hC.oc _ b0 b1 with k | k
       ·rw[b2]at k; exact absurd k e
       ·rw[b2]at k; exact k.1
      refine .inr ⟨⟨b0,b1,by show nth _ (nth y j di) di = -1; rw[e2 _ b0 b1,if_neg (λk=>hib k.symm),if_pos rfl]⟩,.inr ⟨j,zC,hjv,TK.step hC hs i0 i1 N hj hjs e2 (hI.imp (λk=>k.2.2.2) λ⟨v,_,hv,hk,_⟩=>⟨v,hv,hk⟩),hM,?_,λS' hS' => ?_⟩⟩
      ·show sR l (o1.set (0+i.toNat) j)=sR l o+tr l (nth y j di)-tr l c
       omega
      ·refine zP hMj (Int.le_of_eq ?_)
       rw[hS j Eu.1 Eu.2,if_neg e']
       refine J1 _ _ λt ht ki => ?_
       have hm:=iI.2 ⟨t,ht,rfl⟩
       have hv:=hC.vr b0 b1 hm
       exact(zaA hC hr hS e3 hS' _ t.1 hv.1 hv.2 (Nat.lt_succ_self _) (hr j Eu.1 Eu.2 e' t.1 hm ki)).symm
 ·have hi:i = -1:=by simpa using hi
  refine zh (zh (za (za (zd ⟨rfl,hC,?_⟩))))
  rcases hI with⟨_,h1⟩ | ⟨⟨h0,_⟩,_⟩
  ·exact .inr h1
  ·omega
open T PL
def Sb(a r:List Int):Prop:=r.length=a.length/\∀ x∈r,x∈a
def ins(l:List vR)(a:List Int):Prop:=∀ x∈a,0<=x/\x<l.length
theorem oN(a:List Int):Sb a a:=⟨rfl,λ_ h=>h⟩
theorem z0y(a r:List Int)(h:Sb a r):r.length=a.length:=h.1
theorem zaT(a b r:List Int)(h:Sb a b)(k:Sb b r):Sb a r:=⟨k.1.trans h.1,λx N=>h.2 x (k.2 x N)⟩
theorem Ja{a:List Int}{i:Nat}{d:Int}(h:i<a.length):wm a i d∈a:=by
 unfold wm
 rw[zA,zJ h]
 exact zO h
theorem zfO(a r:List Int)(i j:Nat)(d e:Int)(h:Sb a r)(hi:i<r.length)(hj:j<r.length):Sb a ((r.set i (wm r j d)).set j (wm r i e)):=by
 refine⟨by simpa using h.1,λx N=>h.2 x ?_⟩
 rcases zI N with k | rfl
 ·rcases zI k with k | rfl
  ·exact k
  ·exact Ja hj
 ·exact Ja hi
theorem XB(l:List vR)(a r:List Int)(h:Sb a r)(k:ins l a):ins l r:=λx N=>k x (h.2 x N)
theorem US(l:List vR)(a:List Int)(i:Nat)(h:ins l a)(hi:i<a.length):0<=wm a i (zb (.int .i64))/\wm a i (zb (.int .i64))<l.length:=h _ (Ja hi)
theorem GR(x:Int)(h:0<=x)(h':x<=2000000):qj (j8 .u64 (xr x) 1)=x / 2:=by
 have e:xr x=x:=by rw[IW]; omega
 rw[e,show j8 .u64 x 1=x / 2 from ?_,qo (Z) (Z)]
 show Int.fdiv x (2 ^ 1)=_
 rw[Int.fdiv_eq_ediv_of_nonneg _ (xo)]
 rfl
theorem lG{p:Prop} (h:p:=by
 intros
 repeat' (with_reducible first
  | refine zd ?_
  | refine zg (λ_ => ?_) (λ_ => ?_)
  | refine za ?_
  | refine zh ?_
  | refine vG ?_ ?_
  | refine qk ?_ ?_
  | refine vJ ?_ ?_
  | refine vt ?_ ?_
  | refine zc ?_ ?_
  | refine vY (λ_ _ => ?_) (λ_ _ => ?_)
  | refine z8 ?_ (λ_ _ => ?_)
  | refine vI ?_ (λ_ _ => ?_)
  | refine xe ?_
  | dsimp only)
 all_goals grind [xf,uM,jb,List.length_set,oN,z0y,zaT,zfO,XB,US,GR]):p:=h
instance (b c:Int) (l:List vR):Sp (wz b c l) (0<=b/\b<l.length/\0<=c/\c<l.length) (λ_=>True):=⟨λh=>by unfold wz cmp_Compare_int cmp_isNaN_int; exact lG⟩
section
variable (l:List vR)
instance (d:Nat×Nat) (c e:Int) (a:List Int):Sp (vi d c e (λz0 z1=>wz z0 z1 l) a) (d=(0,a.length)/\a.length<=1000/\ins l a/\0<=c/\c<=100000/\e<=a.length) (λr=>Sb a r):=⟨λ⟨h0,h1,X,h3,h4,h5⟩=>by
 subst h0
 have L:∀ (i:Int) (x:List Int),Sp (uQ c e (λz0 z1=>wz z0 z1 l) i ((0,a.length),(i,x))) (Sb a x/\c<=i/\i<a.length) (λr=>r.1=(0,a.length)/\Sb a r.2):=λi x=>⟨λh=>by
  unfold uQ
  refine vx (λ(p,j,b)=>p=(0,a.length)/\c<=j/\j<a.length/\Sb a b) (λ(_,j,_)=>(j-c).toNat) ⟨rfl,h.2.1,h.2.2,h.1⟩ ?_
  rintro⟨p,j,b⟩ ⟨rfl,hj,NW,I⟩
  have R:=I.1
  have hn:∀ k:Nat,k<a.length->0<=wm b k (zb (.int .i64))/\wm b k (zb (.int .i64))<l.length:=λk hk=>US l b k (XB l a b I X) (Z)
  unfold uS
  clear h X
  exact lG⟩
 unfold vi yf
 refine za (za (xe (xv (P:=λr=>Sb a r) ?_ λr hr=>za (zd hr))))
 refine vx (λ(p,j,b)=>p=(0,a.length)/\c<=j/\j<=200000/\Sb a b) (λ(_,j,_)=>(e-j).toNat) ⟨rfl,by grind [jb],by grind [jb],oN a⟩ ?_
 rintro⟨p,j,b⟩ ⟨rfl,hj,NW,I⟩
 have R:=I.1
 unfold uR
 exact lG⟩
instance (d:Nat×Nat) (x y n:Int) (g:Int->Int->T Int) (a:List Int):Sp (vd d x y n g a) (d=(0,a.length)/\a.length<=1000/\0<=x/\0<=y/\0<=n/\x+n<=a.length/\y+n<=a.length) (λr=>Sb a r):=⟨λ⟨h0,h⟩=>by
 subst h0
 unfold vd gT
 refine za (za (xe (xv (P:=λr=>Sb a r) ?_ λr hr=>za (zd hr))))
 refine vx (λ(p,j,b)=>p=(0,a.length)/\0<=j/\j<=n/\Sb a b) (λ(_,j,_)=>(n-j).toNat) ⟨rfl,Z,Z,oN a⟩ ?_
 rintro⟨p,j,b⟩ ⟨rfl,hj,NW,I⟩
 have R:=I.1
 unfold jA
 exact lG⟩
instance (d:Nat×Nat) (x m y:Int) (g:Int->Int->T Int) (a:List Int):Sp (jy d x m y g a) (d=(0,a.length)/\a.length<=1000/\0<=x/\x<m/\m<y/\y<=a.length) (λr=>Sb a r):=⟨λ⟨h0,h⟩=>by
 subst h0
 have L:∀ (i j:Int),Sp (kK m g ((0,a.length),(i,(j,a)))) (0<i/\i<=m/\0<j/\j+m<=a.length) (λr=>r.1=(0,a.length)/\Sb a r.2.2/\0<r.2.1/\r.2.1<=m/\r.2.1+m<=a.length):=λi j=>⟨λk=>by
  unfold kK
  refine vx (λ(p,i,j,b)=>p=(0,a.length)/\0<i/\i<=m/\0<j/\j+m<=a.length/\Sb a b) (λ(_,i,j,_)=>(i+j).toNat) ⟨rfl,k.1,k.2.1,k.2.2.1,k.2.2.2,oN a⟩ ?_
  rintro⟨p,i,j,b⟩ ⟨rfl,hi,Yu,hj,NW,I⟩
  clear k
  have R:=I.1
  unfold kL
  exact lG⟩
 unfold jy
 exact lG⟩
end
open T PL
section
variable (l:List vR)
instance (g:(Nat×Nat)->Int->Int->Int->(List vR)->(List Int)->T (List Int)) (f i j:Int) (d:Nat×Nat) (a:List Int):Sp (uk g f l (d,(i,(j,a)))) (d=(0,a.length)/\a.length<=1000/\ins l a/\0<=i/\i<=j/\j<=a.length/\0<=f/\f<a.length) (λr=>r.1=d/\i<=r.2.1/\r.2.1<=j/\r.2.2=a):=⟨λ⟨h0,h1,X,h3,h4,h5⟩=>by
 subst h0
 unfold uk
 refine vx (λ(p,x,y,b)=>p=(0,a.length)/\i<=x/\x<=y/\y<=j/\b=a) (λ(_,x,y,_)=>(y-x).toNat) ⟨rfl,Z,h4,Z,rfl⟩ ?_
 rintro⟨p,x,y,b⟩ ⟨rfl,N,hy,hj,rfl⟩
 have hm:=GR (x+y) (Z) (Z)
 have hw:qj (x+y)=x+y:=qo (Z) (Z)
 have hn:∀ k:Nat,k<b.length->0<=wm b k (zb (.int .i64))/\wm b k (zb (.int .i64))<l.length:=λk hk=>US l b k X hk
 unfold uu
 clear X
 dsimp only
 rw[hw,hm]
 exact lG⟩
instance (g:(Nat×Nat)->Int->Int->Int->(List vR)->(List Int)->T (List Int)) (f i j:Int) (d:Nat×Nat) (a:List Int):Sp (uo g f l (d,(i,(j,a)))) (d=(0,a.length)/\a.length<=1000/\ins l a/\0<=i/\i<=j/\j<=a.length/\0<=f/\f<a.length) (λr=>r.1=d/\i<=r.2.1/\r.2.1<=j/\r.2.2=a):=⟨λ⟨h0,h1,X,h3,h4,h5⟩=>by
 subst h0
 unfold uo
 refine vx (λ(p,x,y,b)=>p=(0,a.length)/\i<=x/\x<=y/\y<=j/\b=a) (λ(_,x,y,_)=>(y-x).toNat) ⟨rfl,Z,h4,Z,rfl⟩ ?_
 rintro⟨p,x,y,b⟩ ⟨rfl,N,hy,hj,rfl⟩
 have hm:=GR (x+y) (Z) (Z)
 have hw:qj (x+y)=x+y:=qo (Z) (Z)
 have hn:∀ k:Nat,k<b.length->0<=wm b k (zb (.int .i64))/\wm b k (zb (.int .i64))<l.length:=λk hk=>US l b k X hk
 unfold uw
 clear X
 dsimp only
 rw[hw,hm]
 exact lG⟩
instance (g:(Nat×Nat)->Int->Int->Int->(List vR)->(List Int)->T (List Int)) (x1 x2 x3 m n f i j:Int) (d:Nat×Nat) (a:List Int):Sp (ur g x1 x2 x3 l m n f (d,(i,(j,a)))) (d=(0,a.length)/\a.length<=1000/\ins l a/\0<=i/\i<=j/\j<=a.length/\j-1<=f/\f-i<a.length) (λr=>r.1=d/\i<=r.2.1/\r.2.1<=j/\r.2.2=a):=⟨λ⟨h0,h1,X,h3,h4,h5⟩=>by
 subst h0
 unfold ur
 refine vx (λ(p,x,y,b)=>p=(0,a.length)/\i<=x/\x<=y/\y<=j/\b=a) (λ(_,x,y,_)=>(y-x).toNat) ⟨rfl,Z,h4,Z,rfl⟩ ?_
 rintro⟨p,x,y,b⟩ ⟨rfl,N,hy,hj,rfl⟩
 have hm:=GR (x+y) (Z) (Z)
 have hw:qj (x+y)=x+y:=qo (Z) (Z)
 have hn:∀ k:Nat,k<b.length->0<=wm b k (zb (.int .i64))/\wm b k (zb (.int .i64))<l.length:=λk hk=>US l b k X hk
 unfold uy
 clear X
 dsimp only
 rw[hw,hm]
 exact lG⟩
instance (g:(Nat×Nat)->Int->Int->Int->(List vR)->(List Int)->T (List Int)) (f i:Int) (d:Nat×Nat) (a:List Int):Sp (um g f (d,(i,a))) (d=(0,a.length)/\a.length<=1000/\0<=i/\i<=a.length/\0<=f/\f<=a.length) (λr=>Sb a r):=⟨λ⟨h0,h⟩=>by
 subst h0
 unfold um
 refine vx (λ(p,x,b)=>p=(0,a.length)/\i<=x/\x<=a.length/\Sb a b) (λ(_,x,_)=>(f-x).toNat) ⟨rfl,Z,Z,oN a⟩ ?_
 rintro⟨p,x,b⟩ ⟨rfl,N,hj,I⟩
 have R:=I.1
 unfold uv
 exact lG⟩
instance (g:(Nat×Nat)->Int->Int->Int->(List vR)->(List Int)->T (List Int)) (f i:Int) (d:Nat×Nat) (a:List Int):Sp (uq g f (d,(i,a))) (d=(0,a.length)/\a.length<=1000/\0<=i/\i<a.length/\0<=f/\f<=a.length) (λr=>Sb a r):=⟨λ⟨h0,h⟩=>by
 subst h0
 unfold uq
 refine vx (λ(p,x,b)=>p=(0,a.length)/\0<=x/\x<a.length/\Sb a b) (λ(_,x,_)=>(x-f).toNat) ⟨rfl,Z,Z,oN a⟩ ?_
 rintro⟨p,x,b⟩ ⟨rfl,N,hj,I⟩
 have R:=I.1
 unfold ux
 exact lG⟩
end
open T PL
section
variable (l:List vR)
instance (d:Nat×Nat) (x m y:Int) (a:List Int):Sp (vX d x m y l a) (d=(0,a.length)/\a.length<=1000/\ins l a/\0<=x/\x<m/\m<y/\y<=a.length) (λr=>Sb a r):=⟨λ⟨h0,h1,X,h3⟩=>by
 subst h0
 unfold vX
 refine sM (x:=((0,a.length),x,m,y,l,a)) (σ:=(Nat×Nat)×Int×Int×Int×List vR×List Int) (ρ:=List Int) (λ(d,x,m,y,q,a)=>(d=(0,a.length)/\q=l)/\a.length<=1000/\ins l a/\0<=x/\x<m/\m<y/\y<=a.length) (λ(_,x,_,y,_)=>(y-x).toNat) (λ(_,_,_,_,_,a) r=>Sb a r) ?_ ?_ ⟨⟨rfl,rfl⟩,h1,X,h3⟩
 ·intro g g' hg z
  unfold vE uk um uo uq ur uu uv uw ux uy
  exact mono
 ·rename_i N
  clear N h1 X h3 x m y a
  rintro⟨d,x,m,y,q,a⟩ ⟨⟨rfl,rfl⟩,h1,X,h3,h4,h5,h6⟩ g hg
  dsimp only at h1 X h3 h4 h5 h6 hg ⊢
  unfold vE
  have hm:=GR (x+y) (Z) (Z)
  have hw:qj (x+y)=x+y:=qo (Z) (Z)
  have H:∀ (d:Nat×Nat) (x' m' y':Int) (b:List Int),Sp (g (d,x',m',y',q,b)) (d=(0,a.length)/\Sb a b/\0<=x'/\x'<m'/\m'<y'/\y'<=a.length/\y'-x'<y-x) (λr=>Sb a r):=λd x' m' y' b=>⟨λ⟨k0,k1,k⟩=>xv (hg (d,x',m',y',q,b) ⟨⟨by rw[k0,k1.1],rfl⟩,by rw[k1.1]; exact h1,XB q a b k1 X,k.1,k.2.1,k.2.2.1,by rw[k1.1]; exact k.2.2.2.1⟩ (by show(y'-x').toNat<(y-x).toNat; omega)) λr hr=>zaT a b r k1 hr⟩
  clear hg
  dsimp only
  rw[hw,hm]
  clear hm hw
  refine zg (λe => ?_) λe=>zg (λe' => ?_) λe' => ?_
  ·clear H; exact lG
  ·clear H; exact lG
  ·refine zc (xo) (za (za (z8 ?_ ?_)))
   ·clear H; cases I:decide ((x+y) / 2<m)<;>grind [jb,oN]
   ·rintro⟨p,i,b⟩ ⟨rfl,hi,hj,I⟩
    have I:b=a:=I
    subst I
    dsimp only at hi hj ⊢
    have Yu:x<=i/\i<=(x+y) / 2+m-(x+y) / 2/\(x+y) / 2+m-i<=y/\(i<m/\m<(x+y) / 2+m-i->True):=by
     clear H
     cases I:decide ((x+y) / 2<m)<;>grind [jb]
    have hr:=oN b
    clear hi hj
    exact lG⟩
instance (d:Nat×Nat) (c:Int) (a:List Int):Sp (jz d c l a) (d=(0,a.length)/\a.length<=1000/\ins l a/\c=a.length) (λr=>Sb a r):=⟨λ⟨h0,h1,X,h3⟩=>by
 subst h0 h3
 have L0:∀ x y,Sp (kM (a.length:Int) l 20 ((0,a.length),(x,(y,a)))) (x=0/\y=20) (λr=>r.1=(0,a.length)/\0<=r.2.1/\r.2.1<=2000/\Sb a r.2.2):=λx y=>⟨λ⟨k,k'⟩=>by
  subst k k'
  unfold kM
  refine vx (λ(p,i,j,b)=>p=(0,a.length)/\0<=i/\i<=2000/\0<=j/\j<=2000/\Sb a b) (λ(_,_,j,_)=>(2000-j).toNat) ⟨rfl,xo,xo,xo,xo,oN a⟩ ?_
  rintro⟨p,i,j,b⟩ ⟨rfl,hi,Yu,hj,NW,I⟩
  have R:=I.1
  have K4:=XB l a b I X
  unfold kP
  exact lG⟩
 have L2:∀ s x y b,Sp (kO (a.length:Int) l s ((0,a.length),(x,(y,b)))) (x=0/\y=2*s/\0<s/\s<=2000/\Sb a b) (λr=>r.1=(0,a.length)/\0<=r.2.1/\r.2.1<=10000/\Sb a r.2.2):=λs x y b=>⟨λ⟨k,k',k1,k2,k3⟩=>by
  subst k k'
  unfold kO
  refine vx (λ(p,i,j,b)=>p=(0,a.length)/\0<=i/\i<=10000/\j=i+2*s/\j<=10000/\Sb a b) (λ(_,_,j,_)=>(10000-j).toNat) ⟨rfl,xo,xo,Z,Z,k3⟩ ?_
  rintro⟨p,i,j,b⟩ ⟨rfl,hi,Yu,hj,NW,I⟩
  have R:=I.1
  have K4:=XB l a b I X
  unfold kR
  clear k3
  exact lG⟩
 have L1:∀ d x b,Sp (kN (a.length:Int) l (d,(x,b))) (d=(0,a.length)/\x=20/\Sb a b) (λr=>Sb a r):=λd x b=>⟨λ⟨k0,k,k'⟩=>by
  subst k0 k
  unfold kN
  refine vx (λ(p,i,b)=>p=(0,a.length)/\0<i/\i<=4000/\Sb a b) (λ(_,i,_)=>(4000-i).toNat) ⟨rfl,xo,xo,k'⟩ ?_
  rintro⟨p,i,b⟩ ⟨rfl,hi,Yu,I⟩
  have R:=I.1
  have K4:=λb I=>XB l a b I X
  unfold kQ
  clear k'
  exact lG⟩
 have K4:=λb I=>XB l a b I X
 have R:=λb=>z0y a b
 unfold jz
 exact lG⟩
instance (d:Nat×Nat) (a:List Int):Sp (uG d l a) (d=(0,a.length)/\a.length<=1000/\ins l a) (λr=>Sb a r):=⟨λh=>by
 unfold uG
 obtain⟨rfl,h⟩:=h
 exact lG⟩
end
open T PL
theorem zpQ:∀ k:Nat,k<65->(mS (xr 1) (xr k)).wp λr=>r=(0,(k:Int)):=by
 unfold mS oi
 intro k hk
 refine xe (zc (xo) (zc (xo) (zc (xo) (zc (xo) (zc (xo) (zd (zd ?_)))))))
 revert k
 decide +kernel
theorem zeS(k:Nat)(h:1<=k)(h':k<=64):(yv [-1] k).wp λr=>r=qK k (-1):=by
 unfold yv
 refine xl (qp) (xe (xv (zpQ k (Z)) ?_))
 rintro _ rfl
 have e1:qj (k:Int)=k:=qo (Z) (Z)
 dsimp only
 rw[e1,zS]
 refine xl (by simp; omega) (zc ⟨Z,Z,Z,Z⟩ (zc ⟨rfl,qp⟩ (vG (by simp[yx]; omega) (xe ?_))))
 refine xv (P:=λr=>r=qK k (-1)) ?_ λr hr=>zh (za (zd hr))
 unfold eB
 refine vx (σ:=Int×List Int) (λ(b,a)=>a.length=k/\1<=b/\b<=k/\∀ x∈a.take b.toNat,x = -1) (λ(b,_)=>k-b.toNat) ⟨by simp[yx]; omega,by simp[DJ]; omega,by simp[DJ]; omega,?_⟩ ?_
 ·have:DJ k 1=1:=by unfold DJ; omega
  simp only[List.length_singleton,this,yx]
  intro x N
  simpa[List.take_append,zL (show[(-1:Int)].length<=k by simpa using h)]using N
 rintro⟨b,a⟩ ⟨R,b0,b1,N⟩
 obtain⟨j,rfl⟩:=M (show 0<=b by omega)
 unfold gC
 dsimp only
 simp only[zS,Int.toNat_zero,Nat.zero_add,Nat.sub_zero,List.drop_zero]at N ⊢
 refine zg (λe => ?_) λe => ?_
 ·have e:=uf e
  have ha:(yx j (a.length-j) a (a.take j)).length=a.length:=by unfold yx; simp; omega
  have hm:DJ (a.length-j) (a.take j).length=min (a.length-j) j:=by unfold DJ; rw[zH]; omega
  have hw:qj ((j:Int)+(DJ (a.length-j) (a.take j).length:Nat))=((j+min (a.length-j) j:Nat):Int):=by rw[hm,qo (Z) (Z)]; omega
  refine zc ⟨Z,Z,Z⟩ (zc ⟨Z,Z,Z⟩ (za (zc ⟨rfl,Z⟩ (vG ha.symm (zd ?_)))))
  rw[hw]
  refine⟨⟨ha.trans R,Z,Z,λx HR => ?_⟩,by simp only[zS]; omega⟩
  rw[zS]at HR
  have:x∈a.take j:=by
   unfold yx at HR
   rw[List.take_append_of_le_length (by simp; omega)]at HR
   rcases zG.1 (zF HR)with k | k
   ·exact k
   ·exact zF k
  exact N x this
 ·have e:=yT e
  refine zh (za (zd ?_))
  rw[zL (Z)]at N
  exact List.eq_replicate_iff.2 ⟨R,N⟩
instance (t:Term) (v:Int):Sp (bY t v) True (λr=>r=true↔t.1=v):=⟨λ_=>by unfold bY; exact zd (qp)⟩
instance (c:vR) (v:Int):Sp (Wt c v) (c.2.1.length<=1000) (λr=>r=true↔v∈vs c):=⟨λh=>by
 unfold Wt
 refine z8 ⟨Z,λ_ _=>trivial⟩ λr hr=>zd ?_
 rw[iI]
 rcases hr with⟨rfl,k⟩ | ⟨rfl,x,N,k⟩
 ·exact⟨nofun,λ⟨t,ht,e⟩=>(k t ht).2 e⟩
 ·exact⟨λ_=>⟨x,N,k.1 rfl⟩,λ_=>rfl⟩⟩
def Cw(l:List vR):Prop:=l.length<=1000/\∀ c∈l,cw c
instance (l:List vR) (o:List Int) (n:Int):Sp (bz l o n) (Cw l/\o.length<=1000000) (λr=>match r with | .inl (e,f,x,y)=>f=(l,())/\x=o/\(e=true->∃ k:Nat,n=k/\Ch k l o y) | .inr e=>e=false):=⟨λ⟨h,ho⟩=>by
 unfold bz
 refine zg (λ_=>zd rfl) λe => ?_
 simp only[Bool.or_eq_false_iff,decide_eq_false_iff_not,bne_eq_false_iff_eq]at e
 obtain⟨k,rfl⟩:=M (show 0<=n by omega)
 refine z8 (Z) λo' e1 => ?_
 have e1:o'=o:=e1
 subst o'
 refine xe (xv (zeS k (Z) (Z)) λ_ e1 => ?_)
 subst e1
 refine za (za (zh (zh (xe ?_))))
 refine xv (P:=λz=>match z with | .inl (x,y,f)=>f=(l,())/\x=o/\((k:Int)=k/\(∀ c∈l,(dn c k).run=some true)/\y.length=k/\(∀ i:Int,0<=i->i<l.length->nth o i di = -1\/(nth o i di∈vs (nth l i (zb zw))/\nth y (nth o i di) di=i))/\∀ v:Int,0<=v->v<k->nth y v di = -1\/(0<=nth y v di/\nth y v di<l.length/\nth o (nth y v di) di=v)) | .inr (e,_)=>e=false) ?_ ?_
 ·unfold sZ
  refine vx (σ:=Int×List Int×List Int×List vR×Unit) (λ(d,x,y,f)=>f=(l,())/\x=o/\0<=d/\d<=l.length/\(∀ i:Int,0<=i->i<d->(dn (nth l i (zb zw)) k).run=some true)/\y.length=k/\(∀ i:Int,0<=i->i<d->nth o i di = -1\/(nth o i di∈vs (nth l i (zb zw))/\nth y (nth o i di) di=i))/\∀ v:Int,0<=v->v<k->nth y v di = -1\/(0<=nth y v di/\nth y v di<d/\nth o (nth y v di) di=v))
   (λ(d,_)=>(l.length-d).toNat) ⟨rfl,rfl,Z,Z,Z,qp,Z,λv v0 v1=>.inl ?_⟩ ?_
  ·unfold nth
   rw[zA,List.getElem?_replicate,if_pos (Z)]; rfl
  rintro⟨d,x,y,f⟩ ⟨rfl,rfl,d0,d1,hA,hy,hoc,hbc⟩
  unfold fX
  simp only[s6]
  refine zg (λJ => ?_) λJ => ?_
  ·have J:=uf J
   have hw:qj (d+1)=d+1:=qo (Z) (by have:=h.1; omega)
   have hcw:=h.2 _ (wa (d:=zb zw) d0 J)
   refine qk ⟨d0,J⟩ (xe ?_)
   obtain⟨r,hr,hV⟩:=T.lC.1 (Sp.sp (t:=dn (nth l d (zb zw)) k) ⟨Z,hcw.1,hcw.2.1,by have:=hcw.2.2; omega⟩)
   refine gD hr (zg (λe=>za (za (zh (zh (zd rfl))))) λe => ?_)
   have hrt:r=true:=by simpa using e
   subst hrt
   have hV:=hV rfl
   have hA':∀ i:Int,0<=i->i<d+1->(dn (nth l i (zb zw)) k).run=some true:=λi i0 i1=>by
    by_cases e:i=d
    ·rw[e]; exact hr
    ·exact hA i i0 (Z)
   refine qk ⟨d0,Z⟩ (zg (λe => ?_) λe => ?_)
   ·have e:nth x d di = -1:=by simpa using e
    refine za (za (zh (zh (zd ?_))))
    rw[hw]
    refine⟨⟨rfl,rfl,Z,Z,hA',hy,λi i0 i1 => ?_,λv v0 v1=>(hbc v v0 v1).imp_right λ⟨a,b,c⟩=>⟨a,Int.lt_trans b (Int.lt_succ d),c⟩⟩,by simp only; omega⟩
    by_cases e':i=d
    ·rw[e']; exact .inl e
    ·exact hoc i i0 (Z)
   ·have e:nth x d di ≠ -1:=by simpa using e
    refine xe (xv (P:=λz=>z.2=(x,y,(l,()),nth l d (zb zw))/\(z.1=false->nth x d di∈vs (nth l d (zb zw))/\nth y (nth x d di) di = -1)) ?_ ?_)
    ·refine z8 (by exact hcw.2.2) λb I=>zg (λe=>za (za (zh (zh (zd ⟨rfl,nofun⟩))))) λe => ?_
     have I:=I.1 (by simpa using e)
     obtain⟨t,ht,et⟩:=iI.1 I
     have hv:=hV.2.2 t ht
     rw[et]at hv
     have hv1:nth x d di<y.length:=by rw[hy]; exact hv.2
     have hv0:0<=nth x d di:=hv.1
     have FR:0+(nth x d di).toNat<y.length:=Z
     exact qk ⟨hv0,hv1⟩ (zc ⟨rfl,FR⟩ (za (za (zh (zh (zd ⟨rfl,λq=>⟨I,by simpa using q⟩⟩))))))
    ·rintro⟨b,_⟩ ⟨rfl,I⟩
     refine zg (λ_=>za (za (zh (zh (zd rfl))))) λe' => ?_
     obtain⟨I,Yc⟩:=I e'
     obtain⟨t,ht,et⟩:=iI.1 I
     have hv:=hV.2.2 t ht
     rw[et]at hv
     have hv0:0<=nth x d di:=hv.1
     have hv1:nth x d di<y.length:=by rw[hy]; exact hv.2
     have FR:0+(nth x d di).toNat<y.length:=Z
     refine qk ⟨hv0,hv1⟩ (zc ⟨rfl,FR⟩ (za (zc (by rw[List.length_set]) (zh (zc ⟨by rw[List.length_set],rfl,by rw[List.length_set]⟩ (zd ?_))))))
     rw[hw]
     have ud:∀ v:Int,0<=v->nth (y.set (0+(nth x d di).toNat) d) v di=if v=nth x d di then d else nth y v di:=λv v0=>U0 hv0 hv1 v0
     refine⟨⟨rfl,rfl,Z,Z,hA',by rw[List.length_set]; exact hy,λi i0 i1 => ?_,λv v0 v1 => ?_⟩,by simp only; omega⟩
     ·by_cases e':i=d
      ·refine .inr ?_
       rw[e']
       exact⟨I,(ud _ hv0).trans (if_pos rfl)⟩
      ·refine(hoc i i0 (Z)).imp_right λ⟨a,c⟩=>⟨a,?_⟩
       obtain⟨t',ht',et'⟩:=iI.1 a
       have hV':=HF (Sp.sp (t:=dn (nth l i (zb zw)) k) (by
        have hcw:=h.2 _ (wa (l:=l) (i:=i) (d:=zb zw) i0 (Z))
        exact⟨Z,hcw.1,hcw.2.1,by have:=hcw.2.2; omega⟩)) (hA i i0 (Z)) rfl
       have h0:=(hV'.2.2 t' ht').1
       rw[et']at h0
       refine(ud _ h0).trans ?_
       rw[if_neg]
       ·exact c
       ·intro q; rw[q,Yc]at c; omega
     ·have:=ud v v0
      by_cases e':v=nth x d di
      ·rw[if_pos e']at this
       refine .inr ?_
       rw[this]; exact⟨d0,Z,e'.symm⟩
      ·rw[if_neg e']at this
       rw[this]
       exact(hbc v v0 v1).imp_right λ⟨a,b,c⟩=>⟨a,Z,c⟩
  ·have J:=yT J
   have FF:d=l.length:=Z
   subst FF
   refine za (za (zh (zh (zd ⟨rfl,rfl,trivial,λc hc => ?_,hy,hoc,hbc⟩))))
   obtain⟨i,hi,rfl⟩:=zX hc
   have:=hA i (Z) (Z)
   simpa[nth,hi]using this
 ·rintro(⟨x,y,f⟩ | ⟨b,_⟩) hz
  ·obtain⟨rfl,rfl,_,hA,hy,hoc,hbc⟩:=hz
   have hAc:Ac k l:=⟨h.1,λc hc=>⟨h.2 c hc,hA c hc⟩⟩
   refine z8 ⟨Z,Z,hAc⟩ λr hr=>zh (zh (za (za (zd ⟨rfl,rfl,λe=>⟨k,rfl,hAc,Z,Z,hr e,Z,hy,hoc,hbc⟩⟩))))
  ·exact zd hz⟩
open T PL
instance (a b:List Int):Sp (ye a b) (a.length<=1000000) (λr=>r=false->a≠b):=⟨λh=>by
 unfold ye lv
 refine zg (λe=>zd λ_ k=>by rw[k]at e; simp at e) λe => ?_
 have e:(a.length:Int)=b.length:=by simpa using e
 refine xe (xv (P:=λz=>z.elim (λ_=>True) λr=>r=false->a≠b) ?_ λz hz => ?_)
 ·refine vx (σ:=Int) (λi=>0<=i/\i<=a.length) (λi=>(a.length-i).toNat) ⟨Z,Z⟩ λi hi => ?_
  unfold cy
  refine zg (λJ => ?_) λJ=>zd trivial
  have J:=uf J
  have hw:qj (i+1)=i+1:=qo (Z) (Z)
  refine qk ⟨hi.1,J⟩ (qk ⟨hi.1,Z⟩ (zg (λk=>zd λ_ q => ?_) λk=>zd ?_))
  ·rw[q]at k; simp at k
  ·rw[hw]; exact⟨⟨Z,Z⟩,Z⟩
 ·rcases z with z | z
  ·exact zd nofun
  ·exact zd hz⟩
theorem bg{α:Type}(a:List α):zQ 0 (zK (0+a.length) a)=a:=qp
instance (l:List vR) (o:List Int) (n:Int):Sp (oR l o n) (Cw l/\o.length<=1000000) (λr=>(r.2=false->r.1=o)/\(r.2=true->∃ (k:Nat) (y:List Int),n=k/\Ch k l r.1 y)):=⟨λ⟨h,ho⟩=>by
 unfold oR
 have zgj:=h.1
 refine z8 ⟨h,ho⟩ λz hz => ?_
 rcases z with⟨e,f,x,y⟩ | e
 ·obtain⟨rfl,rfl,hC0⟩:=hz
  refine zg (λk=>z8 (Z) λr hr=>zd ⟨λ_=>hr,nofun⟩) λk => ?_
  obtain⟨n,rfl,hC⟩:=hC0 (by simpa using k)
  clear hC0
  refine zc ⟨rfl,rfl,rfl⟩ (zh (zh (za (za (zc rfl (xe (xv (P:=λz=>∃ a,z=((l,()),x,y,a)/\ins l a/\a.length<=1000) ?_ ?_)))))))
  ·unfold QO
   refine vx (σ:=Int×(List vR×Unit)×List Int×List Int×List Int) (λ(d,p,b,c,a)=>(p=(l,())/\b=x/\c=y)/\0<=d/\d<=l.length/\a.length=d.toNat/\ins l a) (λ(d,_)=>(l.length-d).toNat) ⟨⟨rfl,rfl,rfl⟩,Z,Z,rfl,nofun⟩ ?_
   rintro⟨d,p,b,c,a⟩ ⟨⟨rfl,rfl,rfl⟩,d0,d1,R,hi⟩
   unfold o6
   refine zg (λJ => ?_) λJ => ?_
   ·have J:=uf J
    have hw:qj (d+1)=d+1:=qo (Z) (Z)
    refine vJ (Z) (zc ⟨qp,rfl,qp⟩ (zh (zh (za (za (zc (qp) (zd ?_)))))))
    rw[hw]
    refine⟨⟨⟨rfl,rfl,rfl⟩,Z,Z,?_,λu hu => ?_⟩,by simp only; omega⟩
    ·show(a++[d]).length=(d+1).toNat
     rw[List.length_append,List.length_singleton]; omega
    ·rcases zG.1 hu with hu | hu
     ·exact hi u hu
     ·rw[zE.1 hu]; exact⟨d0,J⟩
   ·exact zh (zh (zh (za (za (za (zd ⟨a,rfl,hi,Z⟩))))))
  ·rintro _ ⟨a,rfl,hi,Yb⟩
   refine za (za (z8 ⟨rfl,Yb,hi⟩ λg hg => ?_))
   have hg1:=hg.1
   refine zc ⟨hg1.symm,rfl,hg1.symm⟩ (zh (zh (za (za (za (xe (xv (P:=λz=>∃ o b:List Int,z=((l,()),o,b,g)/\Ch n l o b) ?_ ?_)))))))
   ·have hgi:=XB l a g hg hi
    have hB:=z4d l
    have hV:∀ c∈l,0<=c.1/\c.1<=4:=λc hc=>by have:=hC.ac.vc (by have:=hC.n64; omega) hc; exact⟨this.1,this.2.1⟩
    unfold QP
    refine vx (σ:=(List Int×Bool)×(List vR×Unit)×List Int×List Int×List Int) (λ(_,p,o,b,a)=>p=(l,())/\a=g/\Ch n l o b) (λ(q,_,o,_,_)=>2*(5*l.length-sR l o).toNat+if q.2=true/\q.1=o then 0 else 1) ⟨rfl,rfl,hC⟩ ?_
    rintro⟨q,p,o,b,a⟩ ⟨rfl,rfl,hC'⟩
    unfold o7
    have hol:=hC'.ol
    refine xe (xv (P:=λz=>∃ w:Bool,z=(w,(l,()),o,b,a)/\(w=true->¬ (q.2=true/\q.1=o))) ?_ ?_)
    ·refine zg (λk=>zh (zh (zh (za (za (za (zd ⟨true,rfl,λ_ k' => ?_⟩))))))) λk=>za (xe ?_)
     ·rw[k'.1]at k; cases k
     ·rw[bg]
      by_cases hq:q.1.length=o.length
      ·exact vI (Z) λw hw=>zh (zh (zh (za (za (za (zd ⟨!w,rfl,λe k'=>hw (by simpa using e) k'.2⟩))))))
      ·unfold ye
       exact wU (by rw[bne_iff_ne]; omega) (zd (zh (zh (zh (za (za (za (zd ⟨true,rfl,λ_ k'=>hq (by rw[k'.2])⟩))))))))
    ·rintro _ ⟨w,rfl,hw⟩
     dsimp only
     refine zg (λk => ?_) λk=>zh (zh (za (za (za (zd ⟨o,b,rfl,hC'⟩)))))
     rw[bg]
     refine za (zc (Z) (zh (zh (zh (zh (za (za (za (xe (xv (P:=λz=>∃ o' b':List Int,z=((l,()),o',b',a)/\Ch n l o' b'/\(o'=o/\b'=b\/sR l o<sR l o')) ?_ ?_))))))))))
     ·unfold QQ
      refine vx (σ:=Int×(List vR×Unit)×List Int×List Int×List Int) (λ(d,p,o',b',a')=>(p=(l,())/\a'=a)/\0<=d/\d<=a.length/\Ch n l o' b'/\(o'=o/\b'=b\/sR l o<sR l o')) (λ(d,_)=>(a.length-d).toNat) ⟨⟨rfl,rfl⟩,Z,Z,hC',.inl ⟨rfl,rfl⟩⟩ ?_
      rintro⟨d,p,o',b',a'⟩ ⟨⟨rfl,rfl⟩,d0,d1,hC2,hp⟩
      unfold o8
      simp only[s6]
      refine zg (λJ => ?_) λJ=>zh (zh (zh (za (za (za (zd ⟨o',b',rfl,hC2,hp⟩))))))
      have J:=uf J
      have hw:qj (d+1)=d+1:=qo (Z) (Z)
      have he:=hgi _ (wa (d:=di) d0 J)
      have he0:0<=nth a' d di:=he.1
      have he1:nth a' d di<l.length:=he.2
      have zuE:=hC2.ol
      have he2:nth a' d di<o'.length:=Z
      have he3:0+(nth a' d di).toNat<o'.length:=Z
      refine qk ⟨d0,J⟩ (zc ⟨rfl,Z⟩ (qk ⟨he0,he2⟩ (zc ⟨rfl,he3⟩ (zg (λe => ?_) λe => ?_))))
      ·have e:nth o' (nth a' d di) di = -1:=by simpa using e
       refine zh (zh (za (za (xe (xv (zcO hC2 ⟨he0,he1⟩ e) ?_)))))
       rintro⟨p,o2,b2⟩ ⟨rfl,hC3,hp3⟩
       refine zh (zh (zh (zh (za (za (za (zd ?_)))))))
       rw[hw]
       refine⟨⟨⟨rfl,rfl⟩,Z,Z,hC3,?_⟩,by simp only; omega⟩
       have hp3:o2=o'/\b2=b'\/sR l o'<sR l o2:=hp3
       show o2=o/\b2=b\/sR l o<sR l o2
       rcases hp3 with⟨rfl,rfl⟩ | k
       ·exact hp
       ·rcases hp with⟨rfl,rfl⟩ | k'
        ·exact .inr k
        ·exact .inr (Int.lt_trans k' k)
      ·refine zh (zh (zh (zh (za (za (za (zd ?_)))))))
       rw[hw]
       exact⟨⟨⟨rfl,rfl⟩,Z,Z,hC2,hp⟩,by simp only; omega⟩
     ·rintro _ ⟨o',b',rfl,hC2,hp⟩
      refine zh (zh (zh (za (za (za (zd ⟨⟨rfl,rfl,hC2⟩,?_⟩))))))
      have h1:=hB o hV
      have X:=hB o' hV
      show 2*(5*l.length-sR l o').toNat+(if true=true/\o=o' then 0 else 1)<2*(5*l.length-sR l o).toNat+(if q.2=true/\q.1=o then 0 else 1)
      rw[if_neg (hw k)]
      rcases hp with⟨rfl,_⟩ | k'
      ·rw[if_pos ⟨rfl,rfl⟩]; omega
      ·split<;>omega
   ·rintro _ ⟨o,b,rfl,hC'⟩
    dsimp only
    rw[bg]
    exact za (zd ⟨nofun,λ_=>⟨n,b,rfl,hC'⟩⟩)
 ·have hz:e=false:=hz
  subst hz
  exact wU rfl (z8 (Z) λr hr=>zd ⟨λ_=>hr,nofun⟩)⟩
instance (l:List vR) (o:List Int) (n:Int):Sp (Zc l o n) (Cw l/\o.length<=1000000) (λr=>r=true->∃ (k:Nat) (y:List Int),n=k/\Ch k l o y):=⟨λh=>by
 unfold Zc
 refine z8 h λz hz => ?_
 rcases z with⟨e,f,x,y⟩ | e
 ·exact zd λk=>by obtain⟨m,h1,X⟩:=hz.2.2 k; exact⟨m,y,h1,X⟩
 ·exact zd λk=>by rw[hz]at k; cases k⟩
instance (l:List vR) (o:List Int) (n i:Int):Sp (mJ l o n i) (Cw l/\o.length<=1000000) (λ_=>True):=⟨λh=>by
 unfold mJ
 refine z8 h λz hz => ?_
 rcases z with⟨e,f,x,y⟩ | e
 ·obtain⟨rfl,rfl,hC0⟩:=hz
  refine zg (λk => ?_) λ_=>zd trivial
  obtain⟨n,rfl,hC⟩:=hC0 k
  clear hC0
  refine zg (λi0=>zg (λi1 => ?_) λ_=>zd trivial) λ_=>zd trivial
  have i0:=uf i0
  have i1:=uf i1
  have hol:=hC.ol
  refine qk ⟨i0,Z⟩ (zc ⟨rfl,Z⟩ (zg (λ_=>zh (zh (za (za (xe ?_))))) λ_=>zd trivial))
  refine xv (P:=λ_=>True) ?_ λ_ _=>zd trivial
  unfold gZ cV
  refine qk ⟨i0,i1⟩ (qk ⟨i0,i1⟩ (zh (zh (za (za (xe ?_))))))
  refine xv (P:=λ_=>True) ?_ λ_ _=>zh (zh (za (za (zd trivial))))
  obtain⟨S,hS⟩:=hC.sg
  obtain⟨rk,B,_,hr⟩:=hC.rk
  have hvr:=λt ht=>hC.vr i0 i1 (v:=t) ht
  have hlen:(nth l i (zb zw)).2.1.length<=1000:=(hC.ac.2 _ (wa i0 i1)).1.2.2
  dsimp only
  generalize nth l i (zb zw)=c at *
  refine vx (σ:=Int×Int×Int×(List vR×Unit)×List Int×List Int) (λ(_,_,d,p,a,b)=>(p=(l,())/\a=x/\b=y)/\0<=d/\d<=c.2.1.length) (λ(_,_,d,_)=>(c.2.1.length-d).toNat) ⟨⟨rfl,rfl,rfl⟩,Z,Z⟩ ?_
  rintro⟨p,q,d,w,a,b⟩ ⟨⟨rfl,rfl,rfl⟩,d0,d1⟩
  unfold yj
  refine zg (λJ => ?_) λ_=>zh (zh (za (za (zd trivial))))
  have J:=uf J
  have hw:qj (d+1)=d+1:=qo (Z) (Z)
  have htr:=hvr _ (iI.2 ⟨_,wa (d:=zb qq) d0 J,rfl⟩)
  have hn:=hC.n64
  refine qk ⟨d0,J⟩ (zh (zh (za (za (xe (xv (CB hC hS hr _ htr) ?_))))))
  rintro _ rfl
  refine zc (zc2 (zP (xo) htr.1) (zP (qB htr.2) (Z))) (zg (λ_=>zh (zh (za (za (zd ?_))))) λ_=>zh (zh (za (za (zd ?_)))))
  all_goals
   rw[hw]
   exact⟨⟨⟨rfl,rfl,rfl⟩,Z,Z⟩,by simp only; omega⟩
 ·have hz:e=false:=hz
  subst hz
  exact xl rfl (zd trivial)⟩
open T PL
theorem zcA{n:Int}{l:List vR}(h:Ac n l)(h0:0<=n)(hn:n<=64){c:vR}(hc:c∈l):(c.2.1.length:Int)<=n:=by
 obtain⟨h1,X⟩:=h.2 c hc
 have hV:=h.vc hn hc
 have R:=h1.2.2
 have hA:∀ x∈c.2.1,rg x.2.1/\rl x.2.1<=1000000:=λx N=>⟨h1.1.1 x N,by have:=Wf N; have:=h1.2.1; unfold cb at this; omega⟩
 have hK:rg c.2.2.1/\rl c.2.2.1<=1000000:=⟨h1.1.2,by have:=F5 c; have:=h1.2.1; omega⟩
 have L:∀ s,Sp (Z6 n c.2.1 (c.2.1.length:Int) s) (s=(0,0)) (λr=>match r with | .inl _=>(c.2.1.length:Int)<=n | .inr b=>b=false):=λs=>⟨λhs=>by
  unfold Z6
  refine eX c.2.1 (zb qq) (λ(_,i)=>i) (λx=>(rg x.2.1/\rl x.2.1<=1000000)/\0<=x.1/\x.1<n) (λ_=>True) (λ(g,i)=>i<=g/\g<=n) (λx N=>⟨hA x N,hV.2.2 x N⟩) (by subst hs; exact⟨rfl,qH _,h0⟩) (λ⟨g,i⟩ x hj N he i0 hi => ?_) λ⟨g,i⟩ hj he _ => ?_
  ·dsimp only at *
   unfold pF
   dsimp only
   rw[he]
   clear he hA hK hV
   exact gog
  ·dsimp only at *
   unfold pF
   clear h1 hA hK hV
   exact gog⟩
 refine HF (t:=dn c n) (Q:=λr=>r=true->(c.2.1.length:Int)<=n) ?_ X rfl
 unfold dn
 clear hA hV h1 X h
 exact gog
instance (b:List Int) (c:Int):Sp (ju b c) (b.length<=1000000) (λ_=>True):=⟨λh=>by
 have L:Sp (yt b c (b.length:Int) 0) True (λ_=>True):=⟨λ_=>by
  unfold yt
  refine vx (σ:=Int) (λi=>0<=i/\i<=b.length) (λi=>(b.length-i).toNat) ⟨Z,Z⟩ λi hi => ?_
  unfold yu
  exact lG⟩
 unfold ju uP
 exact lG⟩
instance (b:Term) (c:List Int) (d:Int) (a:List Int):Sp (cZ b c d a) (0<=d/\d<c.length/\a.length<=1000000) (λr=>r.2=a):=⟨λh=>by
 unfold cZ
 rw[bg]
 exact lG⟩
instance (d:List Term) (e:List Int×Int×Unit) (c:List Int):Sp (wL d e c) (0<=e.2.1/\e.2.1<e.1.length/\c.length<=1000000/\d.length<=1000000) (λr=>r.2=c):=⟨λh=>by
 obtain⟨e1,e2,e3⟩:=e
 have L:Sp (vv d (d.length:Int) ((e1,e2,()),0,c)) True (λr=>match r with | .inl a=>a=c | .inr z=>z.2=c):=⟨λ_=>by
  unfold vv
  refine vx (σ:=(List Int×Int×Unit)×Int×List Int) (λ(p,i,b)=>(p=(e1,e2,())/\b=c)/\0<=i/\i<=d.length) (λ(_,i,_)=>(d.length-i).toNat) ⟨⟨rfl,rfl⟩,Z,Z⟩ ?_
  rintro⟨p,i,b⟩ ⟨⟨rfl,rfl⟩,i0,i1⟩
  unfold vw
  exact lG⟩
 unfold wL vU
 exact lG⟩
instance (b:Int) (d:List vR) (f a:List Int):Sp (lg b d f a) ((0<=b/\b<a.length/\b<d.length/\b<f.length/\a.length<=1000000)/\∀ c∈d,c.2.1.length<=1000) (λr=>r.2=a/\(r.1=true->nth a b di ≠ -1)):=⟨λ⟨h,hc⟩=>by
 have hc:=hc _ (wa (d:=zb zw) h.1 h.2.2.1)
 unfold lg
 simp only[s6]
 exact lG⟩
def cn(e:List Int):Nat:=e.countP λx=>x != -1
theorem zcJ{e:List Int}{c:Int}(h0:0<=c)(h1:c<e.length)(h:nth e c di ≠ -1):cn (e.set (0+c.toNat) (-1))+1=cn e:=by
 have hc:0+c.toNat<e.length:=Z
 have e1:e[0+c.toNat]=nth e c di:=by unfold nth; rw[zA]; simp[show c.toNat<e.length by omega]
 have hm:0<e.countP λx=>x != -1:=List.countP_pos_iff.2 ⟨e[0+c.toNat],zO hc,by rw[e1]; simpa using h⟩
 unfold cn
 rw[List.countP_set hc,e1,if_pos (by simpa using h),if_neg (xo)]
 omega
instance (l:List vR) (o:List Int) (n:Int):Sp (WV l o n) (Cw l/\o.length<=1000000) (λr=>(∀ i:Int,i∈r->(0<=i/\i<l.length)/\0<=nth o i di/\nth o i di<n)/\r.length<=1000):=⟨λ⟨h,ho⟩=>by
 unfold WV
 refine z8 ⟨h,ho⟩ λz hz=>zg (λ_=>zd ⟨nofun,xo⟩) λk => ?_
 obtain⟨n,y,rfl,hC⟩:=hz (by simpa using k)
 refine z8 (Z) λo' e1 => ?_
 have e1:o'=o:=e1
 subst o'
 have hol:=hC.ol
 have R:=h.1
 refine zc ⟨rfl,rfl,rfl⟩ (zh (za (zc rfl (xe (xv (P:=λz=>(∀ i:Int,i∈z.2->(0<=i/\i<l.length)/\0<=nth o i di/\nth o i di<n)/\z.2.length<=1000) ?_ λ⟨g,b⟩ hz=>za (zd (by rw[bg]; exact hz)))))))
 unfold Jy
 refine vx (σ:=(List vR×List Int×Unit)×Int×List Int×List Int) (λ(p,c,e,a)=>p=(l,o,())/\0<=c/\c<=l.length/\e.length=l.length/\(∀ i:Int,0<=i->i<l.length->nth e i di = -1\/nth e i di=nth o i di)/\a.length+cn e<=1000/\∀ i:Int,i∈a->(0<=i/\i<l.length)/\0<=nth o i di/\nth o i di<n) (λ(_,c,e,_)=>cn e*2000+(l.length-c).toNat)
  ⟨rfl,Z,Z,hol,λi _ _=>.inr rfl,?_,nofun⟩ ?_
 ·have:cn o<=o.length:=qE
  simp only[List.length_nil]; omega
 rintro⟨p,c,e,a⟩ ⟨rfl,c0,c1,he,hi,ha,hA⟩
 unfold QC
 refine zg (λJ => ?_) λJ=>zh (zh (za (za (zd ⟨hA,by show a.length<=1000; omega⟩))))
 have J:=uf J
 have hw:qj (c+1)=c+1:=qo (Z) (Z)
 have hco:c<o.length:=Z
 refine zh (za (z8 ⟨⟨c0,Z,J,hco,Z⟩,λc hc=>(h.2 c hc).2.2⟩ λ⟨f,b⟩ hf => ?_))
 have I:b=e:=hf.1
 subst I
 refine zg (λk=>zh (zh (za (za (zd ?_))))) λk => ?_
 ·rw[hw]
  exact⟨⟨rfl,Z,Z,he,hi,ha,hA⟩,by simp only; omega⟩
 ·have ki:nth b c di ≠ -1:=hf.2 (by simpa using k)
  have hcn:=zcJ c0 (Z) ki
  have ud:∀ v:Int,0<=v->nth (b.set (0+c.toNat) (-1)) v di=if v=c then -1 else nth b v di:=λv v0=>U0 c0 (Z) v0
  refine qk ⟨c0,Z⟩ (zc ⟨rfl,Z⟩ (vJ (Z) (zc ⟨qp,rfl,qp⟩ (vG (qp) (zc (qp) (zd ?_))))))
  refine⟨⟨rfl,xo,Z,by rw[List.length_set]; exact he,λi i0 i1 => ?_,?_,λi Yu => ?_⟩,?_⟩
  ·rw[ud i i0]
   split
   ·exact .inl rfl
   ·exact hi i i0 i1
  ·show(a++[c]).length+cn (b.set (0+c.toNat) (-1))<=1000
   rw[List.length_append,List.length_singleton]; omega
  ·rcases zG.1 Yu with q | q
   ·exact hA i q
   ·rw[zE.1 q]
    have ho:=(hi c c0 J).resolve_left ki
    have hm:=((hC.oc c c0 J).resolve_left (λq=>ki (ho.trans q))).1
    exact⟨⟨c0,J⟩,hC.vr c0 J hm⟩
  ·show cn (b.set (0+c.toNat) (-1))*2000+(l.length-(0:Int)).toNat<cn b*2000+(l.length-c).toNat
   omega⟩
open T PL
instance (priority:=high) divS (a b:Lf.Rat):Sp (tA a b) (rg a/\rg b/\rl a+rl b<=10000000) (λr=>rg r.1/\rl r.1<=rl a+rl b+4/\(nm r.1\/rl r.1<=2)):=⟨λh=>by unfold tA; exact gor⟩
theorem RS(l:List Lf.Rat)(i:Nat)(h:rs l)(hi:i<l.length):rg (wm l i (zb zm))/\rl (wm l i (zb zm))<=1700:=by
 have e:wm l i (zb zm)∈l:=by unfold wm; rw[zA,zJ hi]; exact zO hi
 exact h.2 _ e
theorem E7(l:List Lf.Rat)(i:Nat)(x:Lf.Rat)(h:rs l)(N:rg x)(R:rl x<=1700):rs (l.set i x):=⟨by simpa using h.1,λy hy=>by
 rcases zI hy with k | rfl
 ·exact h.2 y k
 ·exact⟨N,R⟩⟩
theorem z4s(l:List Lf.Rat)(x:Lf.Rat)(h:rs l)(N:rg x)(R:rl x<=1700)(hn:l.length<1000000000):rs (l++[x]):=⟨by simp; omega,ga h.2 ⟨N,R⟩⟩
theorem MT:rs []:=⟨qp,nofun⟩
theorem csw{l:List vR}(h:UA l):Cw l:=⟨h.1,λc hc=>⟨(h.2 c hc).1,by have:=(h.2 c hc).2.1; omega,by have:=(h.2 c hc).2.2; omega⟩⟩
theorem zbO(x:Lf.Rat)(h:nm x\/rl x<=2)(k:rl (norm x)<=16):rl x<=1700:=by
 rcases h with h | h
 ·rw[<- show norm x=x from h]; omega
 ·omega
theorem gov{p:Prop} (h:p:=by
 intros
 repeat' (with_reducible first
  | refine zd ?_
  | refine zg (λ_ => ?_) (λ_ => ?_)
  | refine za ?_
  | refine zh ?_
  | refine vG ?_ ?_
  | refine qk ?_ ?_
  | refine vJ ?_ ?_
  | refine vt ?_ ?_
  | refine zc ?_ ?_
  | refine vY (λ_ _ => ?_) (λ_ _ => ?_)
  | refine z8 ?_ (λ_ _ => ?_)
  | refine vI ?_ (λ_ _ => ?_)
  | refine xe ?_
  | dsimp only)
 all_goals grind [xf,uM,zu,jb,yO,List.length_set,List.length_append,List.length_singleton,V7,RS,E7,z4s,MT,zbO]):p:=h
instance (c:vR) (v:List Lf.Rat):Sp (CU c v) (ck c/\rs v) (λr=>rg r/\rl r<=12000000):=⟨λ⟨⟨h1,X,h3⟩,hv⟩=>by
 have hA:∀ x∈c.2.1,rg x.2.1/\rl x.2.1<=20700:=λx N=>⟨h1.1 x N,by have:=Wf N; unfold cb at X; omega⟩
 have hK:rg c.2.2.1/\rl c.2.2.1<=20700:=⟨h1.2,by have:=F5 c; omega⟩
 have L:∀ z b,Sp (JP v c.2.1 (c.2.1.length:Int) (0,z,b)) (rg b/\rl b<=20700) (λr=>rg r.2/\rl r.2<=12000000):=λz b=>⟨λI=>by
  unfold JP
  refine eX c.2.1 (zb qq) (λ(i,_)=>i) (λx=>rg x.2.1/\rl x.2.1<=20700) (λ_=>True) (λ(i,_,d)=>0<=i/\i<=512/\rg d/\(rl d:Int)<=20700+22410*i) hA ⟨rfl,xo,xo,I.1,by have:=I.2; show(rl b:Int)<=20700+22410*0; omega⟩ (λ⟨i,y,d⟩ x hj N he i0 hi => ?_) λ⟨i,y,d⟩ hj he _ => ?_
  ·dsimp only at *
   unfold Wp
   dsimp only
   rw[he]
   clear he hA I hK h1 X
   exact gov
  ·dsimp only at *
   unfold Wp
   clear hA I hK h1 X
   exact gov⟩
 unfold CU
 clear hA h1 X h3
 exact gov⟩
instance (c:vR) (v:List Lf.Rat):Sp (tf c v) (ck c/\rs v) (λ_=>True):=⟨λh=>by unfold tf; exact gov⟩
instance (c:vR) (j:Int) (v:List Lf.Rat):Sp (tE c j v) ((ck c/\rs v)/\c.2.1.length<=64/\∀ t∈c.2.1,0<=t.1/\t.1<v.length) (λr=>r.2=v/\rg r.1/\rl r.1<=3000000/\(nm r.1\/rl r.1<=2)):=⟨λ⟨⟨⟨h1,X,h3⟩,hv⟩,R,ht⟩=>by
 have hA:∀ x∈c.2.1,(rg x.2.1/\rl x.2.1<=20700)/\0<=x.1/\x.1<v.length:=λx N=>⟨⟨h1.1 x N,by have:=Wf N; unfold cb at X; omega⟩,ht x N⟩
 have hK:rg c.2.2.1/\rl c.2.2.1<=20700:=⟨h1.2,by have:=F5 c; omega⟩
 have L:∀ z b f,Sp (so j c.2.1 (c.2.1.length:Int) (0,v,z,b,f)) (rg b/\rl b<=20700/\rg f/\rl f<=20700) (λr=>r.1=v/\rg r.2.2.1/\rl r.2.2.1<=1600000/\rg r.2.2.2/\rl r.2.2.2<=20700):=λz b f=>⟨λI=>by
  unfold so
  refine eX c.2.1 (zb qq) (λ(i,_)=>i) (λx=>(rg x.2.1/\rl x.2.1<=20700)/\0<=x.1/\x.1<v.length) (λ_=>True) (λ(i,a,_,d,e)=>a=v/\0<=i/\i<=64/\rg d/\(rl d:Int)<=20700+22410*i/\rg e/\rl e<=20700) hA ⟨rfl,rfl,xo,xo,I.1,by have:=I.2.1; show(rl b:Int)<=20700+22410*0; omega,I.2.2⟩ (λ⟨i,a,y,d,e⟩ x hj N he i0 hi => ?_) λ⟨i,a,y,d,e⟩ hj he _ => ?_
  ·dsimp only at *
   unfold lj
   dsimp only
   rw[he]
   clear he hA I hK h1 X ht
   exact gov
  ·dsimp only at *
   unfold lj
   clear hA I hK h1 X ht
   exact gov⟩
 unfold tE
 clear hA h1 X h3 ht
 exact gov⟩
instance (l:List vR) (o:List Int) (v:List Lf.Rat):Sp (YG l o v) (UA l/\o.length<=1000000/\rs v) (λr=>(r.2.2=0->rs r.1/\r.1.length=v.length) /\ -1<=r.2.1/\r.2.1<l.length):=⟨λ⟨h,ho,hv⟩=>by
 unfold YG
 refine z8 ⟨csw h,ho⟩ λz hz=>zg (λ_=>zd ⟨nofun,by show(-1:Int) <= -1/\(-1:Int)<l.length; omega⟩) λk => ?_
 obtain⟨n,y,hn,hC⟩:=hz (by simpa using k)
 have hn:v.length=n:=Z
 subst hn
 have hol:=hC.ol
 have zuy:=hC.n64
 refine zc ⟨rfl,rfl,rfl⟩ (zc rfl (xe (xv (P:=λd=>rs d/\d.length=v.length) ?_ λd J => ?_)))
 ·unfold Hl
  refine vx (σ:=Int×List Lf.Rat) (λ(i,a)=>0<=i/\i<=v.length/\rs a/\(a.length:Int)=i) (λ(i,_)=>(v.length-i).toNat) ⟨xo,Z,MT,rfl⟩ ?_
  rintro⟨i,a⟩ ⟨i0,i1,ha,R⟩
  have N:=λq=>E5 hv i i0 q
  have hv1:=hv.1
  unfold Ua
  clear hC h hz
  exact gov
 ·refine z8 ⟨csw h,ho⟩ λf hf=>zh (za (xe (xv (P:=λz:List Lf.Rat⊕(Int×Int×List Lf.Rat)=>z.elim (λa=>rs a/\a.length=v.length) λz=>((0:Int)<=z.1/\z.1<(l.length:Int))/\z.2.1=(8:Int)) ?_ λz hz => ?_)))
  ·unfold Hm
   refine eX (σ:=Int×List Lf.Rat) f di (λ(i,_)=>i) (λi:Int=>(0<=i/\i<l.length)/\0<=nth o i di/\nth o i di<v.length) (λ_=>True) (λ(_,a)=>rs a/\a.length=v.length) hf.1 ⟨rfl,J⟩ (λ⟨i,a⟩ x hj N he i0 hi => ?_) λ⟨i,a⟩ hj he _ => ?_
   ·dsimp only at he i0 hi
    obtain⟨⟨x0,x1⟩,y0,y1⟩:=N
    obtain⟨ha,Yb⟩:=hj
    have hcm:=wa (l:=l) (d:=zb zw) x0 x1
    have hV:=(hC.ac.vc (Z) hcm).2.2
    have hlen:=zcA hC.ac (Z) (Z) hcm
    have hck:=h.2 _ hcm
    have HP:x<o.length:=Z
    have hw:qj (i+1)=i+1:=qo (Z) (by have:=hf.2; omega)
    unfold QD
    dsimp only
    rw[show nth f i (zb (.int .i64))=x from he]
    refine wU (by simpa using hi) (qk ⟨i0,hi⟩ (qk ⟨x0,x1⟩ (qk ⟨x0,HP⟩ (zh (za (z8 ⟨⟨hck,ha⟩,Z,λt ht=>by rw[Yb]; exact hV t ht⟩ λ⟨g,b⟩ hg => ?_))))))
    obtain⟨I,hg1,hg2,hg3⟩:=hg
    have I:b=a:=I
    subst I
    refine z8 ⟨hg1,by have:rl g<=3000000:=hg2; show rl g<=_; omega⟩ λk hk=>zg (λ_=>za (zd ⟨⟨x0,x1⟩,rfl⟩)) λe => ?_
    have hrl:=zbO g hg3 (hk (by simpa using e))
    have hy1:nth o x di<b.length:=by rw[Yb]; exact y1
    refine qk ⟨x0,HP⟩ (qk ⟨y0,hy1⟩ (zc ⟨rfl,by rw[Nat.zero_add]; show(nth o x di).toNat<b.length; omega⟩ (zc ⟨by rw[List.length_set],rfl,by rw[List.length_set]⟩ (zc (by rw[List.length_set]) (zd ⟨hw,⟨E7 _ _ _ ha hg1 hrl,by show(List.set _ _ _).length=_; rw[List.length_set]; exact Yb⟩,trivial⟩)))))
   ·unfold QD
    refine xl (by simpa using Int.le_of_eq he.symm) (zh (za (zd hj)))
  ·rcases z with a | ⟨h1,i1,j1⟩
   ·refine za (zd ?_)
    rw[bg]
    exact⟨λ_=>hz,by show(-1:Int) <= -1/\(-1:Int)<l.length; omega⟩
   ·obtain⟨⟨k0,k1⟩,k2⟩:=hz
    have k2:i1=8:=k2
    subst k2
    exact zd ⟨nofun,by have:0<=h1:=k0; show -1<=h1; omega,k1⟩⟩
open T PL
instance (c:vR):Sp (QE c) (ck c) (λ_=>True):=⟨λh=>by
 have h1:=h.1.2
 have X:=h.2.1
 have h3:=F5 c
 unfold QE
 exact gov⟩
instance (c:vR) (n:Int):Sp (yZ c n) (n<=1000000/\ck c) (λr=>r=false->(dn c n).run=some true):=⟨λh=>by
 unfold yZ
 obtain⟨r,hr,_⟩:=T.lC.1 (Sp.sp (t:=dn c n) ⟨h.1,h.2.1,by have:=h.2.2.1; omega,by have:=h.2.2.2; omega⟩)
 exact xe (gD hr (zd λe=>by rw[hr]; simpa using e))⟩
def ou(l:List Int):Prop:=∀ x∈l,-1<=x/\x<1000000000000000000
instance (l:List vR) (s:ji):Sp (tK l s) (UA l/\s.1.length<=1000000/\rs s.2.1) (λr=>(r.2.2=0->rs r.1.2.1/\r.1.2.1.length=s.2.1.length/\r.1.1.length=l.length/\ou r.1.1) /\ -1<=r.2.1/\r.2.1<l.length):=⟨λ⟨h,ho,hv⟩=>by
 unfold tK
 have z7G:(-1:Int)<l.length:=Z
 refine xe (xv (P:=λz=>(z.1=false->Ac s.2.1.length l/\s.2.1.length<=64)/\z.2.2=(s.2.1.length:Int)) ?_ ?_)
 ·refine zg (λ_=>zd ⟨nofun,rfl⟩) λ_=>zg (λ_=>zd ⟨nofun,rfl⟩) λh64=>zg (λ_=>zd ⟨nofun,rfl⟩) λ_=>zg (λ_=>zd ⟨nofun,rfl⟩) λ_ => ?_
  have h64:=yT h64
  refine z8 ⟨by have:=h.1; omega,λx N=>⟨Z,h.2 x N⟩⟩ λr hr=>zd ⟨λe=>⟨⟨h.1,λc hc=>⟨(csw h).2 c hc,?_⟩⟩,Z⟩,rfl⟩
  have e:r=false:=e
  rcases hr with⟨_,k⟩ | ⟨k,_⟩
  ·exact k c hc rfl
  ·rw[e]at k; cases k
 ·rintro⟨j,k,d⟩ ⟨hA,J⟩
  have J:d=s.2.1.length:=J
  subst J
  refine zg (λ_=>zd ⟨nofun,by show(-1:Int) <= -1; decide,z7G⟩) λe => ?_
  obtain⟨hA,h64⟩:=hA e
  refine z8 ⟨Z,Z,hA⟩ λf hf=>zg (λe=>zd ⟨nofun,hf.1,hf.2.1⟩) λ_ => ?_
  refine z8 ⟨csw h,ho⟩ λ⟨o,b⟩ hS=>zg (λ_=>zd ⟨nofun,by show(-1:Int) <= -1; decide,z7G⟩) λe => ?_
  obtain⟨m,y,hm,hC⟩:=hS.2 (by simpa using e)
  have hol:o.length=l.length:=hC.ol
  have zgj:=h.1
  have hou:ou o:=λx N=>by
   obtain⟨j,j0,j1,rfl⟩:=Yz (d:=di) N
   rcases hC.oc j j0 (Z)with q | ⟨q,_⟩
   ·have q:nth o j di = -1:=q
    omega
   ·have q2:0<=nth o j di/\nth o j di<(m:Int):=hC.vr j0 (Z) q
    have:=hC.n64
    omega
  refine xe (xv (P:=λz:(ji×Int)⊕(Int×Int×ji×Int)=>z.elim (λ_=>True) λz=>((-1:Int)<=z.1/\z.1<(l.length:Int))/\z.2.1=(10:Int)) ?_ ?_)
  ·unfold Wb
   refine vx (σ:=Int×ji×Int) (λ(i,_)=>0<=i/\i<=l.length) (λ(i,_)=>(l.length-i).toNat) ⟨xo,Z⟩ ?_
   rintro⟨i,c,d⟩ ⟨i0,i1⟩
   have N:0<=i->i<l.length->ck (nth l i (zb zw)):=λp q=>h.2 _ (wa p q)
   unfold sH
   clear hC hS hA hf h hv
   exact gov
  ·rintro(⟨r,t⟩ | ⟨i,q,t,u⟩) hz
   ·refine z8 ⟨h,by show o.length<=_; omega,hv⟩ λ⟨m,n,g⟩ hR=>zg (λe=>zd ⟨λq => ?_,hR.2⟩) λe=>zd ⟨λ_=>⟨(hR.1 ?_).1,(hR.1 ?_).2,hol,hou⟩,by show(-1:Int) <= -1; decide,z7G⟩
    ·have q:g=0:=q
     rw[q]at e; cases e
    ·simpa using e
    ·simpa using e
   ·obtain⟨⟨k0,k1⟩,k2⟩:=hz
    have k2:q=10:=k2
    subst k2
    exact zd ⟨nofun,k0,k1⟩⟩
def Sys(a:uz):Prop:=UA a.2.1/\a.2.2.1.length=a.2.1.length/\a.2.2.2.1.length=a.2.1.length/\io (a.1.2.2.2.2.1.length+a.1.2.2.2.1.length) a.2.2.2.1
instance (b:Int) (a:uz):Sp (cW b a) (Sys a /\ -1<=b/\b<a.2.1.length/\a.1.2.2.2.2.1.length<=10000/\a.1.2.2.2.1.length<=10000) (λr=>r.2=a/\r.1.length<=1):=⟨λ⟨⟨h1,X,h3,h4⟩,h5,h6,h7⟩=>by
 have N:0<=b->0<=nth a.2.2.2.1 b (zb (.int .i64))/\nth a.2.2.2.1 b (zb (.int .i64))<a.1.2.2.2.2.1.length+a.1.2.2.2.1.length:=λp=>h4 _ (wa p (Z))
 unfold cW
 clear h1 h4
 exact gov⟩
instance (g:List Lf.Rat) (a:uz):Sp (jY g a) (Sys a/\rs g/\a.1.2.2.2.2.1.length<=10000/\a.1.2.2.2.1.length<=10000) (λr=>(r.2.2.1=0->rs r.1/\r.1.length=g.length/\Sys r.2.2.2/\r.2.2.2.1=a.1/\r.2.2.2.2.1=a.2.1/\ou r.2.2.2.2.2.1)/\r.2.1.length<=1):=⟨λ⟨h,hg,hF⟩=>by
 unfold jY
 refine z8 ⟨h.1,by have:=h.2.1; have:=h.1.1; show a.2.2.1.length<=_; omega,hg⟩ λ⟨b,d,c⟩ hP=>zg (λe=>z8 ⟨h,hP.2.1,hP.2.2,hF⟩ λz hz=>zd ⟨λq => ?_,hz.2⟩) λe=>zd ⟨λ_ => ?_,U _⟩
 ·have q:c=0:=q
  rw[q]at e; cases e
 ·obtain⟨p1,p2,p3,p4⟩:=hP.1 (by simpa using e)
  exact⟨p1,p2,⟨h.1,p3,h.2.2⟩,rfl,rfl,p4⟩⟩
open T PL
def Pn(p:qh):Prop:=rg p.2.2.1/\rl p.2.2.1<=1700
def Ps(l:List qh):Prop:=l.length<=1000000000/\∀ p∈l,Pn p
def Dw(d:zt):Prop:=rs d.1/\d.2.1.length<=1000000000/\rs d.2.2.1/\d.2.2.2.1.length<=1000000000/\Ps d.2.2.2.2.1/\d.2.2.2.2.2.1.length<=1000000000/\ou d.2.2.2.1
theorem Li(l:List qh)(i:Int)(h:Ps l)(h0:0<=i)(h1:i<l.length):rg (nth l i (zb zk)).2.2.1/\rl (nth l i (zb zk)).2.2.1<=1700:=h.2 _ (wa h0 h1)
theorem NA(l:List qh)(i:Nat)(h:Ps l)(hi:i<l.length):rg (wm l i (zb zk)).2.2.1/\rl (wm l i (zb zk)).2.2.1<=1700:=by
 have e:wm l i (zb zk)∈l:=by unfold wm; rw[zA,zJ hi]; exact zO hi
 exact h.2 _ e
theorem CT(l:List qh)(i:Nat)(x:qh)(h:Ps l)(N:rg x.2.2.1)(R:rl x.2.2.1<=1700):Ps (l.set i x):=⟨by simpa using h.1,λy hy=>by
 rcases zI hy with k | rfl
 ·exact h.2 y k
 ·exact⟨N,R⟩⟩
theorem zcr(l:List qh)(x:qh)(h:Ps l)(N:rg x.2.2.1)(R:rl x.2.2.1<=1700)(hn:l.length<1000000000):Ps (l++[x]):=⟨by simp; omega,ga h.2 ⟨N,R⟩⟩
theorem zcs:Ps []:=⟨qp,nofun⟩
theorem DF(n:Int)(l:List Int)(i:Nat)(h:io n l)(hi:i<l.length):0<=wm l i (zb (.int .i64))/\wm l i (zb (.int .i64))<n:=h _ (Ja hi)
theorem zbA(n m:Int)(l:List Int)(h:io n l)(k:n<=m):io m l:=λi hi=>⟨(h i hi).1,Int.lt_of_lt_of_le (h i hi).2 k⟩
theorem zg2(t:Term)(k:Lf.Rat)(h1:rg t.2.1)(X:rl t.2.1<=20700)(h3:rg k)(h4:rl k<=20700):ck (1,[t],k,()):=by
 refine⟨⟨λx N=>by rw[zE.1 N]; exact h1,h3⟩,?_,by show 1<=512; decide⟩
 show max (max (rl t.2.1) 0) (rl k)<=20700
 omega
theorem god{p:Prop} (h:p:=by
 intros
 repeat' (with_reducible first
  | refine zd ?_
  | refine zg (λ_ => ?_) (λ_ => ?_)
  | refine za ?_
  | refine zh ?_
  | refine vG ?_ ?_
  | refine qk ?_ ?_
  | refine vJ ?_ ?_
  | refine vt ?_ ?_
  | refine zc ?_ ?_
  | refine vY (λ_ _ => ?_) (λ_ _ => ?_)
  | refine z8 ?_ (λ_ _ => ?_)
  | refine vI ?_ (λ_ _ => ?_)
  | refine xe ?_
  | dsimp only)
 all_goals grind [xf,uM,zu,jb,yO,List.length_set,List.length_append,List.length_singleton,List.length_nil,V7,RS,E7,z4s,MT,Li,NA,CT,zcr,zcs,DF,zg2,D9,DE]):p:=h
instance (c:Int) (d:Lf.Rat):Sp (Dc c d) (rg d/\rl d<=1700) (λr=>ck r):=⟨λh=>by
 unfold Dc
 exact god⟩
instance (q:Int) (i:Lf.Rat) (f:Int) (a:Form) (b:List vR) (c d:List Int):Sp (kT q i f a b c d) ((rg i/\rl i<=1700)/\(UA b/\b.length<=900)/\c.length<=10000/\d.length<=10000/\0<=q/\q<a.2.2.2.1.length/\a.2.2.2.1.length<=10000/\a.2.2.2.2.1.length<=10000/\io (a.2.2.2.2.1.length+a.2.2.2.1.length) d)
  (λr=>(UA r.2.1/\r.2.1.length=b.length+1)/\r.2.2.1.length=c.length+1/\(r.2.2.2.length=d.length+1/\io (a.2.2.2.2.1.length+a.2.2.2.1.length) r.2.2.2)/\r.1=a):=⟨λh=>by
 obtain⟨hi,⟨I,hb9⟩,hc,J,q0,q1,hf,hr,hio⟩:=h
 have hw:qj ((a.2.2.2.2.1.length:Int)+q)=a.2.2.2.2.1.length+q:=qo (Z) (Z)
 unfold kT
 refine z8 hi λe he=>vJ (Z) (vJ (Z) (vJ (Z) (zc ⟨qp,rfl,qp⟩ (zc ⟨qp,rfl,qp⟩ (zc ⟨qp,rfl,qp⟩ (zc (qp) (zc (qp) (zc (qp) (zd ?_)))))))))
 rw[hw]
 exact⟨⟨D9 b e I he (Z),qp⟩,qp,⟨qp,DE _ _ _ hio (Z) (Z)⟩,rfl⟩⟩
instance (f:Form) (d:zt):Sp (Xp f d) True (λr=>r=true->d.2.2.1.length=f.2.2.2.1.length/\d.2.2.2.1.length=f.2.2.2.2.1.length/\d.2.2.2.2.1.length=f.2.2.2.1.length/\d.2.2.2.2.2.1.length=f.2.2.2.1.length):=⟨λ_=>by
 unfold Xp
 refine zd λh => ?_
 simp only[zU,beq_iff_eq]at h
 omega⟩
def Bt(f:Form)(b:List vR)(c d:List Int):Prop:=UA b/\c.length=b.length/\d.length=b.length/\io (f.2.2.2.2.1.length+f.2.2.2.1.length) d
instance (f:Form) (d:zt):Sp (dt f d) (FW 8200 f/\Dw d) (λr=>match r with | .inl (k,a,b,c,e)=>k=0/\a=f/\Bt f b c e/\FV f/\f.2.2.2.1.length<=64/\f.2.2.2.2.1.length<=64/\d.2.2.1.length=f.2.2.2.1.length/\d.2.2.2.1.length=f.2.2.2.2.1.length/\d.2.2.2.2.1.length=f.2.2.2.1.length/\d.2.2.2.2.2.1.length=f.2.2.2.1.length/\d.1.length=f.2.1.length/\d.2.1.length=f.1.length/\b.length<=128 | .inr (n,k)=>k≠0/\n.length<=1):=⟨λ⟨hF,hD⟩=>by
 unfold dt
 refine z8 trivial λo ho=>zg (λ_=>zd ⟨xo,U _⟩) λe => ?_
 have ho:=ho (by simpa using e)
 refine z8 ⟨hF,hD.1,hD.2.1⟩ λ⟨p,n,k,g,b⟩ hz=>zg (λe=>zd ⟨by simpa using(qG.1 e).1,zT _⟩) λ_=>zg (λe=>zd ⟨by simpa using e,U _⟩) λe => ?_
 obtain⟨hg,I,hgb,zdn,hz⟩:=hz
 obtain⟨hV,h1,X,h3,h4⟩:=hz (by simpa using e)
 dsimp only at hg I hgb zdn
 refine zh (za (za (zh (zc ⟨rfl,rfl,rfl⟩ (zh (zc rfl (xe (xv (P:=λz=>∃ c:List Int,z=(g,b,(),f,c)/\c.length=b.length) ?_ ?_))))))))
 ·unfold Xn
  refine vx (σ:=Int×List vR×List Int×Unit×Form×List Int) (λ(i,x,y,u,w,c)=>(x=g/\y=b/\w=f)/\0<=i/\i<=b.length/\(c.length:Int)=i) (λ(i,_)=>(b.length-i).toNat) ⟨⟨rfl,rfl,rfl⟩,xo,Z,rfl⟩ ?_
  rintro⟨i,x,y,u,w,c⟩ ⟨⟨rfl,rfl,rfl⟩,i0,i1,hc⟩
  unfold rm
  refine zg (λJ => ?_) λJ => ?_
  ·have J:=uf J
   have hn:=DF _ _ (0+i.toNat) I (Z)
   have hw:qj (i+1)=i+1:=qo (Z) (Z)
   have Gi:wm y (0+i.toNat) (zb (.int .i64))<d.2.2.2.1.length:=by have:=hn.2; have:=ho.2.1; omega
   refine qk ⟨i0,J⟩ (zc ⟨rfl,Z⟩ (qk ⟨hn.1,Gi⟩ (vJ (Z) (zh (za (za (zh (zc ⟨qp,rfl,qp⟩ (zh (zc (qp) (zd ?_)))))))))))
   rw[hw]
   exact⟨⟨⟨rfl,rfl,rfl⟩,Z,Z,by show((c++[_]).length:Int)=i+1; rw[List.length_append,List.length_singleton]; omega⟩,by simp only; omega⟩
  ·have J:=yT J
   exact za (za (zh (zh (zh (za (zd ⟨c,rfl,Z⟩))))))
 ·rintro _ ⟨c,rfl,hc⟩
  refine za (za (zh (zh (zh (za (xe (xv (P:=λz=>∃ (x:List vR) (y q:List Int) (w:Form),z=(x,y,(),w,q)/\Bt f x q y/\w=f/\x.length<=128) ?_ ?_)))))))
  ·unfold Xo
   have hPn:=hD.2.2.2.2.1
   have zoR:d.2.2.2.2.1.length<=64:=by have:=ho.2.2.1; omega
   have hP3:=ho.2.2.1
   generalize d.2.2.2.2.1=ps at hPn zoR hP3 ⊢
   refine vx (σ:=Int×List vR×List Int×Unit×Form×List Int) (λ(i,x,y,u,w,c)=>w=f/\0<=i/\i<=ps.length/\Bt f x c y/\(x.length:Int)<=64+i) (λ(i,_)=>(ps.length-i).toNat) ⟨rfl,xo,Z,⟨hg,Z,Z,zbA _ _ _ I (Z)⟩,Z⟩ ?_
   rintro⟨i,x,y,u,w,c⟩ ⟨rfl,i0,i1,hB,N⟩
   obtain⟨b1,b2,b3,b4⟩:=hB
   unfold rq
   refine zg (λJ => ?_) λJ => ?_
   ·have J:=uf J
    have hp:=Li ps i hPn i0 J
    have hw:qj (i+1)=i+1:=qo (Z) (Z)
    refine qk ⟨i0,J⟩ (zg (λ_=>za (za (zh (zh (zh (za (zd ?_))))))) λ_ => ?_)
    ·rw[hw]
     exact⟨⟨rfl,Z,Z,⟨b1,b2,b3,b4⟩,Z⟩,by simp only; omega⟩
    ·have q1:i<w.2.2.2.1.length:=Z
     have q2:w.2.2.2.1.length<=10000:=Z
     have q3:w.2.2.2.2.1.length<=10000:=Z
     refine zh (zh (zh (za (za (za (z8 ⟨hp,⟨b1,Z⟩,Z,Z,i0,q1,q2,q3,b4⟩ λ⟨e,p,q,r⟩ hr=>za (za (zh (zh (zh (za (zd ?_))))))))))))
     obtain⟨⟨r1,r2⟩,r3,⟨r4,r5⟩,r6⟩:=hr
     dsimp only at r1 r2 r3 r4 r5 r6
     rw[hw]
     exact⟨⟨r6,Z,Z,⟨r1,Z,Z,r5⟩,Z⟩,by simp only; omega⟩
   ·exact za (za (zh (zh (zh (za (zd ⟨x,y,c,w,rfl,⟨b1,b2,b3,b4⟩,rfl,Z⟩))))))
  ·rintro _ ⟨x,y,q,w,rfl,hB,rfl,N⟩
   exact zh (zh (zh (za (za (za (zd ⟨rfl,rfl,hB,hV,h1,X,ho.1,ho.2.1,ho.2.2.1,ho.2.2.2,h3,h4,N⟩))))))⟩
open T PL
theorem goz{p:Prop} (h:p:=by
 intros
 repeat' (with_reducible first
  | refine zd ?_
  | refine zg (λ_ => ?_) (λ_ => ?_)
  | refine za ?_
  | refine zh ?_
  | refine vG ?_ ?_
  | refine qk ?_ ?_
  | refine vJ ?_ ?_
  | refine vt ?_ ?_
  | refine zc ?_ ?_
  | refine vY (λ_ _ => ?_) (λ_ _ => ?_)
  | refine z8 ?_ (λ_ _ => ?_)
  | refine vI ?_ (λ_ _ => ?_)
  | refine xe ?_
  | dsimp only)
 all_goals grind [xf,uM,zu,jb,List.length_set]):p:=h
instance (a:zt):Sp (lZ a) (Dw a) (λr=>r=((),a.1,a.2.1,a.2.2.1,a.2.2.2.1,a.2.2.2.2.1,a.2.2.2.2.2.1)):=⟨λ⟨h1,X,h3,h4,h5,h6⟩=>by
 have k1:=h1.1
 have k3:=h3.1
 have k5:=h5.1
 unfold lZ
 exact goz⟩
theorem MI{l:List Int}(h:ou l)(i:Nat){x:Int}(N : -1<=x/\x<1000000000000000000):ou (l.set i x):=λy hy=>by
 rcases zI hy with k | rfl
 ·exact h y k
 ·exact N
def z0C(w:zt)(a:List Int)(d:List qh):Prop:=ou a/\a.length=w.2.2.2.1.length/\Ps d/\d.length=w.2.2.2.2.1.length
instance (w:zt) (x:List Lf.Rat) (y:uz):Sp (gK w x y) (Dw w/\(Sys y/\ou y.2.2.1)/\w.2.2.2.1.length=y.1.2.2.2.2.1.length/\w.2.2.2.2.1.length=y.1.2.2.2.1.length)
  (λr=>∃ (a:List Int) (d:List qh),r=((x,()),y,w.1,w.2.1,a,d,w.2.2.2.2.2.1)/\z0C w a d):=⟨λ⟨hD,⟨hS,hou⟩,hR,hF⟩=>by
 have J:=hD.2.2.2.2.1
 have ho:=hD.2.2.2.1
 have hd2:=J.1
 obtain⟨s1,s2,s3,s4⟩:=hS
 have s5:=s1.1
 unfold gK
 refine z8 hD λ_ e => ?_
 subst e
 refine zh (zh (zh (zh (zh (za (za (za (za (za (za (xe (xv (P:=λz=>∃ (k:zt) (a:List Int),z=(y,(x,()),k,w.1,w.2.1,w.2.2.1,a,w.2.2.2.2.1,w.2.2.2.2.2.1)/\ou a/\a.length=w.2.2.2.1.length) ?_ ?_))))))))))))
 ·unfold ni
  refine vx (λz=>∃ (i:Int) (k:zt) (a:List Int),z=(i,y,(x,()),k,w.1,w.2.1,w.2.2.1,a,w.2.2.2.2.1,w.2.2.2.2.2.1)/\(ou a/\a.length=w.2.2.2.1.length)/\0<=i/\i<=w.2.2.2.1.length) (λz=>(w.2.2.2.1.length-z.1).toNat) ⟨0,_,_,rfl,⟨hD.2.2.2.2.2.2,rfl⟩,xo,Z⟩ ?_
  rintro _ ⟨i,k,a,rfl,⟨hoa,ha⟩,i0,i1⟩
  unfold du
  refine zg (λhi => ?_) λhi => ?_
  ·have hi:=uf hi
   have hw:qj (i+1)=i+1:=qo (Z) (Z)
   refine qk ⟨i0,Z⟩ (zc ⟨rfl,Z⟩ (zh (zh (zc ⟨by rw[List.length_set],rfl,by rw[List.length_set]⟩ (zh (zh (za (za (za (zc (by rw[List.length_set]) (za (za (zd ?_)))))))))))))
   rw[hw]
   exact⟨⟨i+1,k,_,rfl,⟨MI hoa _ (xo),by rw[List.length_set]; exact ha⟩,Z,Z⟩,by simp only; omega⟩
  ·exact zh (zh (zh (zh (zh (za (za (za (za (za (za (zd ⟨k,a,rfl,hoa,ha⟩)))))))))))
 ·rintro _ ⟨k,a,rfl,hoa,ha⟩
  refine zh (zh (zh (zh (zh (za (za (za (za (za (za (xe (xv (P:=λz=>∃ (k:zt) (a:List Int) (d:List qh),z=(y,(x,()),k,w.1,w.2.1,w.2.2.1,a,d,w.2.2.2.2.2.1)/\z0C w a d) ?_ ?_))))))))))))
  ·unfold nj
   refine vx (λz=>∃ (i:Int) (k:zt) (a:List Int) (d:List qh),z=(i,y,(x,()),k,w.1,w.2.1,w.2.2.1,a,d,w.2.2.2.2.2.1)/\z0C w a d/\0<=i/\i<=y.2.2.1.length) (λz=>(y.2.2.1.length-z.1).toNat) ⟨0,_,_,_,rfl,⟨hoa,ha,J,rfl⟩,xo,Z⟩ ?_
   rintro _ ⟨i,k,a,d,rfl,⟨hoa,ha,J,FF⟩,i0,i1⟩
   unfold dv
   refine zg (λhi => ?_) λhi => ?_
   ·have hi:=uf hi
    have hw:qj (i+1)=i+1:=qo (Z) (Z)
    have hio:i<y.2.2.2.1.length:=Z
    have hh:=s4 _ (wa (d:=di) i0 hio)
    have h0:(0:Int)<=nth y.2.2.2.1 i di:=hh.1
    have h1:(y.1.2.2.2.2.1.length+y.1.2.2.2.1.length:Int) > nth y.2.2.2.1 i di:=hh.2
    refine qk ⟨i0,hi⟩ (qk ⟨i0,hio⟩ (zg (λe => ?_) λe => ?_))
    ·have e:(a.length:Int) > nth y.2.2.2.1 i di:=uf e
     have e':0+(nth y.2.2.2.1 i di).toNat<a.length:=Z
     refine qk ⟨h0,e⟩ (zc ⟨rfl,e'⟩ (zh (zh (zc ⟨by rw[List.length_set],rfl,by rw[List.length_set]⟩ (zh (zh (za (za (za (zc (by rw[List.length_set]) (za (za (zd ?_)))))))))))))
     rw[hw]
     exact⟨⟨i+1,k,_,d,rfl,⟨MI hoa _ (hou _ (wa (d:=di) i0 (Z))),by rw[List.length_set]; exact ha,J,FF⟩,Z,Z⟩,by simp only; omega⟩
    ·have e:¬ (a.length:Int) > nth y.2.2.2.1 i di:=yT e
     have hwm:qj (nth y.2.2.2.1 i di-a.length)=nth y.2.2.2.1 i di-a.length:=qo (Z) (Z)
     have e1:(0:Int)<=qj (nth y.2.2.2.1 i di-a.length)/\(d.length:Int) > qj (nth y.2.2.2.1 i di-a.length):=by rw[hwm]; omega
     have e2:0+(qj (nth y.2.2.2.1 i di-a.length)).toNat<d.length:=Z
     have hp:=NA d _ J e2
     refine qk e1 (zc ⟨rfl,e2⟩ (zh (zh (zh (zc ⟨by rw[List.length_set],rfl,by rw[List.length_set]⟩ (zh (za (za (za (za (zc (by rw[List.length_set]) (za (zd ?_)))))))))))))
     rw[hw]
     exact⟨⟨i+1,k,a,_,rfl,⟨hoa,ha,CT _ _ _ J hp.1 hp.2,by rw[List.length_set]; exact FF⟩,Z,Z⟩,by simp only; omega⟩
   ·exact zh (zh (zh (zh (zh (za (za (za (za (za (za (zd ⟨k,a,d,rfl,hoa,ha,J,FF⟩)))))))))))
  ·rintro _ ⟨k,a,d,rfl,hT⟩
   exact zh (zh (zh (zh (zh (za (za (za (za (za (zd ⟨a,d,rfl,hT⟩))))))))))⟩
def Dx(f:Form)(d:zt):Prop:=Dw d/\FV f/\f.2.2.2.1.length<=64/\f.2.2.2.2.1.length<=64/\d.2.2.1.length=f.2.2.2.1.length/\d.2.2.2.1.length=f.2.2.2.2.1.length/\d.2.2.2.2.1.length=f.2.2.2.1.length/\d.2.2.2.2.2.1.length=f.2.2.2.1.length/\d.1.length=f.2.1.length/\d.2.1.length=f.1.length
theorem zaL{α:Type}{t:T α}{Q:α->Prop}(k:t.wp Q):(T.W (zu 0 0 0 0) (T.W (zu 0 0 0 0) (T.W (zu 0 0 0 0) (T.W (zu 0 0 0 0) (oZ (T.W ((0:Nat)=0) (T.W ((0:Nat)=0) (T.W ((0:Nat)=0) (T.W ((0:Nat)=0) t))))))))).wp Q:=by
 have c:zu 0 0 0 0:=⟨rfl,rfl,rfl⟩
 exact⟨c,c,c,c,c,rfl,rfl,rfl,rfl,rfl,k⟩
theorem zfb{α A B C D κ':Type}{a:List A}{b:List B}{c:List C}{d:List D}{e:List κ'}{t:T α}{Q:α->Prop}(k:t.wp Q):(oC a (oC b (oC c (oC d (oC e (V a (V b (V c (V d (V e t)))))))))).wp Q :=
 zh (zh (zh (zh (zh (za (za (za (za (za k)))))))))
abbrev D8(r:((List Lf.Rat)×Unit)×(List q9)×Int×(List Lf.Rat)×(List Bool)×(List Int)×(List qh)×(List Bool)):zt:=(r.2.2.2.1,r.2.2.2.2.1,r.1.1,r.2.2.2.2.2.1,r.2.2.2.2.2.2.1,r.2.2.2.2.2.2.2,())
instance (f:Form) (d:zt):Sp (dU f d) (FW 8200 f/\Dw d) (λr=>(r.2.2.1=0->Dx f (D8 r))/\r.2.1.length<=1):=⟨λ⟨hF,hD⟩=>by
 unfold dU
 refine z8 ⟨hF,hD⟩ λz hz => ?_
 rcases z with⟨k,a,b,c,e⟩ | ⟨n,m⟩
 ·obtain⟨rfl,rfl,⟨b1,b2,b3,b4⟩,hV,f1,f2,l1,l2,l3,l4,l5,l6,-⟩:=hz
  refine xl rfl (za (za (za ?_)))
  rw[bg,bg,bg]
  refine z8 ⟨⟨b1,b2,b3,b4⟩,hD.2.2.1,by show a.2.2.2.2.1.length<=_; omega,by show a.2.2.2.1.length<=_; omega⟩ λ⟨v,ns,err,y⟩ hp=>zg (λe=>zaL (zd ⟨λq => ?_,hp.2⟩)) λe => ?_
  ·have q:err=0:=q
   rw[q]at e; cases e
  ·obtain⟨p1,p2,p3,p4,-,p5⟩:=hp.1 (by simpa using e)
   have p4:y.1=a:=p4
   have p2:v.length=d.2.2.1.length:=p2
   refine z8 ⟨hD,⟨p3,p5⟩,by rw[p4]; omega,by rw[p4]; omega⟩ λ_ hr => ?_
   obtain⟨o,ps,rfl,Bn,t1,t2,t3⟩:=hr
   exact zfb (zd ⟨λ_=>⟨⟨hD.1,hD.2.1,p1,by show o.length<=_; omega,t2,hD.2.2.2.2.2.1,Bn⟩,hV,f1,f2,by show v.length=_; omega,by show o.length=_; omega,by show ps.length=_; omega,l4,l5,l6⟩,U _⟩)
 ·have hz:m≠0/\n.length<=1:=hz
  refine wU (by simpa using hz.1) (zaL (zd ⟨λq=>absurd q hz.1,hz.2⟩))⟩
open T PL
abbrev N12:=List Bool×List Bool×List Bool×List Bool×List qh×List qh×List Int×List Int×List Lf.Rat×List Lf.Rat×List Lf.Rat×List Lf.Rat
abbrev N15:=Int×Unit×Unit×N12
def ra(l:List Lf.Rat):Prop:=∀ x∈l,rg x/\rl x<=1700
def pa(l:List qh):Prop:=∀ x∈l,Pn x
def Nw(m n p r s:Nat)(t:N12):Prop:=t.2.2.1.length=m/\t.2.2.2.1.length=n/\(pa t.2.2.2.2.2.1/\t.2.2.2.2.2.1.length=n)/\(ou t.2.2.2.2.2.2.2.1/\t.2.2.2.2.2.2.2.1.length=p)/\(ra t.2.2.2.2.2.2.2.2.2.2.1/\t.2.2.2.2.2.2.2.2.2.2.1.length=r)/\(ra t.2.2.2.2.2.2.2.2.2.2.2/\t.2.2.2.2.2.2.2.2.2.2.2.length=s)
theorem JN{α:Type}(l:List α)(x:α):(l++[x]).length=l.length+1:=qp
theorem cu1{α:Type}(l:List α)(x:α):zu (l.length+1) 0 (l.length+1) (l++[x]).length:=by rw[JN]; exact⟨rfl,rfl,rfl⟩
instance (f:Form):Sp (Ww f) (F9 f) (λr=>(r.2.2.1=0->Dx f (D8 r))/\r.2.1.length<=1):=⟨λ⟨hF,hp⟩=>by
 have n0:=hF.1.1
 have n1:=hF.2.1.1
 have n2:=hF.2.2.2.1.1
 have n3:=hF.2.2.2.2.1.1
 unfold Ww
 iterate 11 refine zc ⟨rfl,rfl,rfl⟩ ?_
 refine zc ⟨rfl,rfl,rfl⟩ (zc rfl ?_)
 iterate 11 refine zc rfl ?_
 refine xe (xv (P:=λz=>Nw 0 0 0 f.2.1.length 0 z.2.2) ?_ ?_)
 ·unfold UD
  refine vx (λz:N15=>∃ k:Nat,z.1=(k:Int)/\k<=f.2.1.length/\Nw 0 0 0 k 0 z.2.2.2) (λz:N15=>((f.2.1.length:Int)-z.1).toNat) ⟨0,rfl,Z,rfl,rfl,⟨nofun,rfl⟩,⟨nofun,rfl⟩,⟨nofun,rfl⟩,nofun,rfl⟩ ?_
  rintro⟨_,u,v,c,d,e,g,h,i,j,k,l,m,a,b⟩ ⟨n,rfl,h1,w1,w2,⟨w3,w4⟩,⟨w0,w5⟩,⟨w6,w7⟩,w8,w9⟩
  dsimp only at w0 w1 w2 w3 w4 w5 w6 w7 w8 w9
  unfold ZT
  refine zg (λJ => ?_) λJ => ?_
  ·have J:=uf J
   have hn:nth f.2.1 (n:Int) (zb ql)∈f.2.1:=wa (Z) J
   have q1:=hF.2.1.2 _ hn
   have q2:=hp _ hn
   have hw:qj ((n:Int)+1)=n+1:=qo (Z) (Z)
   refine qk ⟨Z,J⟩ (z8 ⟨q1.2.1,Y q2 (xo)⟩ λo ho => ?_)
   have q3:rl o<=max 1 (rl (nth f.2.1 (n:Int) (zb ql)).2.1):=ho.2.1
   repeat' (with_reducible first | refine za ?_ | refine zh ?_ | refine vJ (Z) ?_ | refine zc (cu1 _ _) ?_ | refine zc (JN _ _).symm ?_ | refine zd ?_)
   rw[hw]
   exact⟨⟨n+1,rfl,Z,w1,w2,⟨w3,w4⟩,⟨w0,w5⟩,⟨ga w6 ⟨ho.1,Z⟩,by show(_++[_]).length=_; rw[JN]; omega⟩,w8,w9⟩,by simp only; omega⟩
  ·have J:=yT J
   have e:n=f.2.1.length:=Z
   repeat' (with_reducible first | refine za ?_ | refine zh ?_)
   exact zd ⟨w1,w2,⟨w3,w4⟩,⟨w0,w5⟩,⟨w6,by show a.length=_; omega⟩,w8,w9⟩
 rintro⟨u,v,c,d,e,g,h,i,j,k,l,m,a,b⟩ ⟨w1,w2,⟨w3,w4⟩,⟨w0,w5⟩,⟨w6,w7⟩,w8,w9⟩
 dsimp only at w0 w1 w2 w3 w4 w5 w6 w7 w8 w9
 repeat' (with_reducible first | refine za ?_ | refine zh ?_)
 refine xe (xv (P:=λz=>Nw f.1.length 0 0 f.2.1.length 0 z.2.2) ?_ ?_)
 ·unfold UE
  refine vx (λz:N15=>∃ k:Nat,z.1=(k:Int)/\k<=f.1.length/\Nw k 0 0 f.2.1.length 0 z.2.2.2) (λz:N15=>((f.1.length:Int)-z.1).toNat) ⟨0,rfl,Z,w1,w2,⟨w3,w4⟩,⟨w0,w5⟩,⟨w6,w7⟩,w8,w9⟩ ?_
  rintro⟨_,u,v,c,d,e,g,h,i,j,k,l,m,a,b⟩ ⟨n,rfl,h1,w1,w2,⟨w3,w4⟩,⟨w0,w5⟩,⟨w6,w7⟩,w8,w9⟩
  dsimp only at w0 w1 w2 w3 w4 w5 w6 w7 w8 w9
  unfold ZU
  refine zg (λJ => ?_) λJ => ?_
  ·have J:=uf J
   have hw:qj ((n:Int)+1)=n+1:=qo (Z) (Z)
   refine qk ⟨Z,J⟩ ?_
   repeat' (with_reducible first | refine za ?_ | refine zh ?_ | refine vJ (Z) ?_ | refine zc (cu1 _ _) ?_ | refine zc (JN _ _).symm ?_ | refine zd ?_)
   rw[hw]
   exact⟨⟨n+1,rfl,Z,by show(_++[_]).length=_; rw[JN]; omega,w2,⟨w3,w4⟩,⟨w0,w5⟩,⟨w6,w7⟩,w8,w9⟩,by simp only; omega⟩
  ·have J:=yT J
   have e':n=f.1.length:=Z
   repeat' (with_reducible first | refine za ?_ | refine zh ?_)
   exact zd ⟨by show e.length=_; omega,w2,⟨w3,w4⟩,⟨w0,w5⟩,⟨w6,w7⟩,w8,w9⟩
 clear w0 w1 w2 w3 w4 w5 w6 w7 w8 w9
 rintro⟨u,v,c,d,e,g,h,i,j,k,l,m,a,b⟩ ⟨w1,w2,⟨w3,w4⟩,⟨w0,w5⟩,⟨w6,w7⟩,w8,w9⟩
 dsimp only at w0 w1 w2 w3 w4 w5 w6 w7 w8 w9
 repeat' (with_reducible first | refine za ?_ | refine zh ?_)
 refine xe (xv (P:=λz=>Nw f.1.length f.2.2.2.1.length 0 f.2.1.length f.2.2.2.1.length z.2.2) ?_ ?_)
 ·unfold UF
  refine vx (λz:N15=>∃ k:Nat,z.1=(k:Int)/\k<=f.2.2.2.1.length/\Nw f.1.length k 0 f.2.1.length k z.2.2.2) (λz:N15=>((f.2.2.2.1.length:Int)-z.1).toNat) ⟨0,rfl,Z,w1,w2,⟨w3,w4⟩,⟨w0,w5⟩,⟨w6,w7⟩,w8,w9⟩ ?_
  rintro⟨_,u,v,c,d,e,g,h,i,j,k,l,m,a,b⟩ ⟨n,rfl,h1,w1,w2,⟨w3,w4⟩,⟨w0,w5⟩,⟨w6,w7⟩,w8,w9⟩
  dsimp only at w0 w1 w2 w3 w4 w5 w6 w7 w8 w9
  unfold ZV
  refine zg (λJ => ?_) λJ => ?_
  ·have J:=uf J
   have hw:qj ((n:Int)+1)=n+1:=qo (Z) (Z)
   refine z8 ⟨xo,xo⟩ λp hp=>vJ (Z) (z8 ⟨xo,xo⟩ λq hq => ?_)
   repeat' (with_reducible first | refine za ?_ | refine zh ?_ | refine vJ (Z) ?_ | refine zc (cu1 _ _) ?_ | refine zc (JN _ _).symm ?_ | refine zd ?_)
   rw[hw]
   have hq1:rl q<=2:=hq.2
   exact⟨⟨n+1,rfl,Z,w1,by show(_++[_]).length=_; rw[JN]; omega,⟨ga w3 ⟨hq.1,Y hq1 (xo)⟩,by show(_++[_]).length=_; rw[JN]; omega⟩,⟨w0,w5⟩,⟨w6,w7⟩,ga w8 ⟨hp.1,Z⟩,by show(_++[_]).length=_; rw[JN]; omega⟩,by simp only; omega⟩
  ·have J:=yT J
   have e:n=f.2.2.2.1.length:=Z
   repeat' (with_reducible first | refine za ?_ | refine zh ?_)
   exact zd ⟨w1,by show g.length=_; omega,⟨w3,by show i.length=_; omega⟩,⟨w0,w5⟩,⟨w6,w7⟩,w8,by show b.length=_; omega⟩
 clear w0 w1 w2 w3 w4 w5 w6 w7 w8 w9
 rintro⟨u,v,c,d,e,g,h,i,j,k,l,m,a,b⟩ ⟨w1,w2,⟨w3,w4⟩,⟨w0,w5⟩,⟨w6,w7⟩,w8,w9⟩
 dsimp only at w0 w1 w2 w3 w4 w5 w6 w7 w8 w9
 repeat' (with_reducible first | refine za ?_ | refine zh ?_)
 refine xe (xv (P:=λz=>Nw f.1.length f.2.2.2.1.length f.2.2.2.2.1.length f.2.1.length f.2.2.2.1.length z.2.2) ?_ ?_)
 ·unfold UG
  refine vx (λz:N15=>∃ k:Nat,z.1=(k:Int)/\k<=f.2.2.2.2.1.length/\Nw f.1.length f.2.2.2.1.length k f.2.1.length f.2.2.2.1.length z.2.2.2) (λz:N15=>((f.2.2.2.2.1.length:Int)-z.1).toNat) ⟨0,rfl,Z,w1,w2,⟨w3,w4⟩,⟨w0,w5⟩,⟨w6,w7⟩,w8,w9⟩ ?_
  rintro⟨_,u,v,c,d,e,g,h,i,j,k,l,m,a,b⟩ ⟨n,rfl,h1,w1,w2,⟨w3,w4⟩,⟨w0,w5⟩,⟨w6,w7⟩,w8,w9⟩
  dsimp only at w0 w1 w2 w3 w4 w5 w6 w7 w8 w9
  unfold ZW
  refine zg (λJ => ?_) λJ => ?_
  ·have J:=uf J
   have hw:qj ((n:Int)+1)=n+1:=qo (Z) (Z)
   repeat' (with_reducible first | refine za ?_ | refine zh ?_ | refine vJ (Z) ?_ | refine zc (cu1 _ _) ?_ | refine zc (JN _ _).symm ?_ | refine zd ?_)
   rw[hw]
   exact⟨⟨n+1,rfl,Z,w1,w2,⟨w3,w4⟩,⟨ga w0 (xo),by show(_++[_]).length=_; rw[JN]; omega⟩,⟨w6,w7⟩,w8,w9⟩,by simp only; omega⟩
  ·have J:=yT J
   have e:n=f.2.2.2.2.1.length:=Z
   repeat' (with_reducible first | refine za ?_ | refine zh ?_)
   exact zd ⟨w1,w2,⟨w3,w4⟩,⟨w0,by show k.length=_; omega⟩,⟨w6,w7⟩,w8,w9⟩
 clear w0 w1 w2 w3 w4 w5 w6 w7 w8 w9
 rintro⟨u,v,c,d,e,g,h,i,j,k,l,m,a,b⟩ ⟨w1,w2,⟨w3,w4⟩,⟨w0,w5⟩,⟨w6,w7⟩,w8,w9⟩
 dsimp only at w0 w1 w2 w3 w4 w5 w6 w7 w8 w9
 repeat' (with_reducible first | refine za ?_ | refine zh ?_)
 rw[bg,bg,bg,bg,bg,bg]
 refine z8 ⟨hF,⟨by show a.length<=_; omega,w6⟩,by show e.length<=_; omega,⟨by show b.length<=_; omega,w8⟩,by show k.length<=_; omega,⟨by show i.length<=_; omega,w3⟩,by show g.length<=_; omega,w0⟩ λr hr=>zfb (zd hr)⟩
open T PL
theorem mD{α A B C:Type}{a:List A}{b:List B}{c:List C}{t:T α}{Q:α->Prop}(k:t.wp Q):(oC a (oC b (oC c (V a (V b (V c t)))))).wp Q:=zh (zh (zh (za (za (za k)))))
theorem Mu{α:Type}{a:List α}{i:Nat}{d:α}(h:i<a.length):wm a i d∈a:=by unfold wm; rw[zA,zJ h]; exact zO h
instance (i:Int) (m:List Lf.Rat) (f:Form) (a:List vR) (b e:List Int):Sp (bj i m f a b e) (Bt f a b e/\0<=i/\i<a.length/\rs m) (λr=>∃ q,r=(q,f,a,b,e)):=⟨λ⟨⟨h1,X,h3,h4⟩,g0,g1,hv⟩=>by
 have hc:ck (wm a (0+i.toNat) (zb zw)):=h1.2 _ (Mu (Z))
 have n1:=h1.1
 unfold bj
 refine qk ⟨g0,g1⟩ (zc ⟨rfl,Z⟩ (qk ⟨g0,Z⟩ (zc ⟨rfl,Z⟩ (zg (λ_=>z8 ⟨hc,hv⟩ λo _=>mD (zd ⟨o,rfl⟩)) λ_ => ?_))))
 refine xe (xv (P:=λz=>∃ q,z=(q,f,a,b,e,wm a (0+i.toNat) (zb zw))) (zg (λ_=>z8 ⟨hc.1.2,Y (F5 _) (Y hc.2.1 (xo))⟩ λq _=>mD (zd ⟨q,rfl⟩)) λ_=>mD (zd ⟨_,rfl⟩)) ?_)
 rintro _ ⟨q,rfl⟩
 dsimp only
 rw[bg,bg]
 have hB:Cw a/\b.length<=1000000:=⟨csw h1,Z⟩
 exact zg (λ_=>za (za (z8 hB λs _=>mD (zd ⟨s,rfl⟩)))) λ_=>zg (λ_=>za (za (z8 hB λs _=>mD (zd ⟨s,rfl⟩)))) λ_=>mD (zd ⟨_,rfl⟩)⟩
instance (a:Lf.Rat):Sp (bZ a) (rg a/\rl a<=1700) (λr=>r=true->rl (norm a)<=16):=⟨λh=>by
 have h1:rl a<=5000000:=Y h.2 (xo)
 have X:rl a<=50000000:=Y h.2 (xo)
 unfold bZ
 exact z8 ⟨h.1,h1⟩ λb _=>zg (λ_=>z8 ⟨h.1,X⟩ λc hc=>zd λe=>hc (by simpa using e)) λ_=>zd nofun⟩
instance (a:Lf.Rat):Sp (fx a) (rg a/\rl a<=1700) (λ_=>True):=⟨λh=>by
 unfold fx
 exact z8 h λb _=>zd trivial⟩
instance (a:qh):Sp (fy a) (Pn a) (λ_=>True):=⟨λh=>by
 have X:rl a.2.2.1<=50000000:=Y h.2 (xo)
 unfold fy JY
 exact z8 (s:=⟨λ_=>z8 h λb _=>zg (λ_=>zg (λ_=>zd trivial) λ_=>zg (λ_=>z8 ⟨h.1,X⟩ λc _=>zd trivial) λ_=>zd trivial) λ_=>zd trivial⟩) (pre:=True) (post:=λ_=>True) trivial λ_ _=>zd trivial⟩
instance (f:Form) (d:zt):Sp (Xm f d) (FW 8200 f/\Dw d) (λr=>r=true->Dx f d):=⟨λ⟨hF,hD⟩=>by
 unfold Xm
 refine z8 ⟨hF,hD⟩ λz hz => ?_
 have hv:d.2.2.1.length<=1000000000000:=Y hD.2.2.1.1 (xo)
 have hp:d.2.2.2.2.1.length<=1000000000000:=Y hD.2.2.2.2.1.1 (xo)
 rcases z with⟨k,a,b,c,e⟩ | ⟨n,m⟩
 ·obtain⟨rfl,rfl,hB,hV,f1,f2,l1,l2,l3,l4,l5,l6,-⟩:=hz
  have hX:Dx a d:=⟨hD,hV,f1,f2,l1,l2,l3,l4,l5,l6⟩
  have n1:=hB.1.1
  have n2:=hB.2.1
  have n3:=hB.2.2.1
  refine xl rfl (z8 ⟨hv,hD.2.2.1.2⟩ λx _=>zg (λ_=>zd nofun) λ_=>z8 ⟨hp,hD.2.2.2.2.1.2⟩ λy _=>zg (λ_=>zd nofun) λ_=>mD ?_)
  refine xe (xv (P:=λz=>z=.inl (a,b,c,e)\/∃ w,z=.inr (false,w)) ?_ ?_)
  ·unfold BI
   refine vx (λz:Int×Form×List vR×List Int×List Int=>∃ i:Int,z=(i,a,b,c,e)/\0<=i/\i<=d.2.2.2.1.length) (λz:Int×Form×List vR×List Int×List Int=>((d.2.2.2.1.length:Int)-z.1).toNat) ⟨0,rfl,xo,Z⟩ ?_
   rintro _ ⟨i,rfl,i0,i1⟩
   unfold JW
   refine zg (λJ => ?_) λJ=>zh (zh (zh (za (za (za (zd (.inl rfl)))))))
   have J:=uf J
   have hw:qj (i+1)=i+1:=qo (Z) (Z)
   refine qk ⟨i0,J⟩ (xe (xv (P:=λz=>∃ q,z=(q,a,b,c,e)) (zg (λ_=>za ?_) λ_=>mD (zd ⟨_,rfl⟩)) ?_))
   ·rw[bg]
    exact z8 (Z) λq _=>mD (zd ⟨_,rfl⟩)
   ·rintro _ ⟨q,rfl⟩
    refine zg (λ_=>mD (zd (.inr ⟨_,rfl⟩))) λ_=>mD (zd ?_)
    rw[hw]
    exact⟨⟨i+1,rfl,Z,Z⟩,by simp only; omega⟩
  ·rintro _ (rfl | ⟨w,rfl⟩)
   ·refine za (za ?_)
    rw[bg,bg]
    refine z8 ⟨csw hB.1,Z⟩ λn hn=>zg (λ_=>zd nofun) λ_=>mD ?_
    refine xe (xv (P:=λz=>True) ?_ λz _ => ?_)
    ·unfold BJ
     refine vx (λz:Int×Form×List vR×List Int×List Int=>∃ i:Int,z=(i,a,b,c,e)/\0<=i/\i<=b.length) (λz:Int×Form×List vR×List Int×List Int=>((b.length:Int)-z.1).toNat) ⟨0,rfl,xo,Z⟩ ?_
     rintro _ ⟨i,rfl,i0,i1⟩
     unfold JX
     refine zg (λJ=>mD ?_) λJ=>mD (zd trivial)
     have J:=uf J
     have hw:qj (i+1)=i+1:=qo (Z) (Z)
     refine z8 ⟨hB,i0,J,hD.2.2.1⟩ λ_ ⟨q,hq⟩ => ?_
     subst hq
     refine zg (λ_=>mD (zd trivial)) λ_=>mD (zd ?_)
     rw[hw]
     exact⟨⟨i+1,rfl,Z,Z⟩,by simp only; omega⟩
    ·rcases z with z | z
     ·exact zd λ_=>hX
     ·exact zd λ_=>hX
   ·exact zd nofun
 ·have hz:m≠0/\n.length<=1:=hz
  exact wU (by simpa using hz.1) (zd nofun)⟩
open T PL
theorem nz{p:Prop}{a:Int}(h:a≠0):a=0->p:=λq=>absurd q h
instance (a:Field) (s:q9):Sp (dT a s) True (λ_=>True):=⟨λ_=>by unfold dT; exact zd trivial⟩
instance (f:Form) (s:q9):Sp (Zf f s) (f.2.2.2.1.length<=8200) (λr => -1<=r/\r<f.2.2.2.1.length):=⟨λh=>by
 unfold Zf
 refine z8 ⟨Z,λ_ _=>trivial⟩ λr hr=>zd ?_
 rcases hr with⟨rfl,_⟩ | ⟨h1,X,_⟩<;>omega⟩
theorem z6D(a:uz)(h:Sys a)(b:Int):Sys (a.1,uI (e:=zw) 0 b a.2.1,uI (e:=.int .i64) 0 b a.2.2.1,uI (e:=.int .i64) 0 b a.2.2.2.1,()):=by
 obtain⟨⟨h1,X⟩,h3,h4,h5⟩:=h
 exact⟨⟨Y (List.length_take_le' ..) h1,λc hc=>X c (zF hc)⟩,by show(zK _ _).length=(zK _ _).length; rw[zH,zH,h3],by show(zK _ _).length=(zK _ _).length; rw[zH,zH,h4],λi hi=>h5 i (zF hi)⟩
instance (f:Form) (d:zt) (s:q9) (v:Lf.Rat):Sp (UC f d s v) (FW 8200 f/\Dw d/\rg v/\rl v<=1700) (λr=>(r.2.2=0->Dx f r.1)/\r.2.1.length<=1):=⟨λ⟨hF,hD,hv⟩=>by
 unfold UC
 refine z8 hF.2.2.2.1.1 λi hi=>z8 ⟨hF,hD⟩ λy hy=>zg (λ_=>zd ⟨nz (a:=1) (xo),U _⟩) λe=>zg (λ_=>zd ⟨nz (a:=5) (xo),U _⟩) λe2=>z8 hv λz _=>zg (λ_=>zd ⟨nz (a:=8) (xo),zT _⟩) λ_=>z8 ⟨hF,hD⟩ λw hw => ?_
 have i0:=yT e2
 rcases w with⟨k,a,b,c,e⟩ | ⟨n,m⟩
 ·obtain⟨rfl,rfl,⟨b1,b2,b3,b4⟩,hV,f1,f2,l1,l2,l3,l4,l5,l6,l7⟩:=hw
  have i1:i<a.2.2.2.1.length:=hi.2
  have i2:0<=i:=Z
  have g1:a.2.2.2.1.length<=10000:=Z
  have g2:a.2.2.2.2.1.length<=10000:=Z
  refine xl rfl (mD (z8 ⟨hv,⟨b1,Z⟩,Z,Z,i2,i1,g1,g2,b4⟩ λ⟨a',p,q,r⟩ hr=>za (za (za ?_))))
  obtain⟨⟨r1,r2⟩,r3,⟨r4,r5⟩,r6⟩:=hr
  dsimp only at r1 r2 r3 r4 r5 r6
  subst r6
  rw[bg,bg,bg]
  refine z8 ⟨⟨r1,by show q.length=p.length; omega,by show r.length=p.length; omega,r5⟩,hD.2.2.1,g2,g1⟩ λ⟨A,B,u,y⟩ hp => ?_
  dsimp only
  refine zg (λe=>zd ⟨nz (by simpa using e),hp.2⟩) λe => ?_
  obtain⟨p1,p2,p3,p4,p5,-⟩:=hp.1 (by simpa using e)
  dsimp only at p1 p2 p3 p4 p5
  have q1:y.2.1.length=b.length+1:=by rw[p5]; exact r2
  have q2:=p3.2.1
  have q3:=p3.2.2.1
  have q4:qj ((y.2.1.length:Int)-1)=b.length:=by rw[q1]; exact(qo (Z) (Z)).trans (Z)
  rw[q4]
  refine qk ⟨Z,Z⟩ (zg (λ_=>zd ⟨nz (a:=11) (xo),zT _⟩) λ_=>zc ⟨Z,Z,Z⟩ (zc ⟨Z,Z,Z⟩ (zc ⟨Z,Z,Z⟩ (z8 ⟨z6D y p3 b.length,p1,by show y.1.2.2.2.2.1.length<=_; rw[p4]; exact g2,by show y.1.2.2.2.1.length<=_; rw[p4]; exact g1⟩ λ⟨C,D,v,κ'⟩ hq => ?_))))
  refine zg (λe=>zd ⟨nz (by simpa using e),hq.2⟩) λe => ?_
  obtain⟨s1,s2,s3,s4,-,s5⟩:=hq.1 (by simpa using e)
  dsimp only at s1 s2 s3 s4 s5
  rw[p4]at s4
  refine z8 ⟨hD,⟨s3,s5⟩,by rw[s4]; exact l2,by rw[s4]; exact l3⟩ λ_ hr => ?_
  obtain⟨o,ps,rfl,Bn,t1,t2,t3⟩:=hr
  refine qk ⟨i2,by show i<d.2.2.2.2.2.1.length; omega⟩ (zc ⟨rfl,by show 0+i.toNat<d.2.2.2.2.2.1.length; omega⟩ (za (za (za (za (za (zd ⟨λ_ => ?_,U _⟩)))))))
  rw[bg,bg,bg,bg]
  have hs:(zQ 0 (zK (0+d.2.2.2.2.2.1.length) (List.set d.2.2.2.2.2.1 (0+i.toNat) true))).length=d.2.2.2.2.2.1.length:=qp
  have n4:=hD.2.2.2.1
  have n6:=hD.2.2.2.2.2.1
  exact⟨⟨hD.1,hD.2.1,s1,by show o.length<=_; omega,t2,by show(zQ 0 (zK (0+d.2.2.2.2.2.1.length) (List.set d.2.2.2.2.2.1 (0+i.toNat) true))).length<=_; omega,Bn⟩,hV,f1,f2,by show C.length=_; omega,by show o.length=_; omega,by show ps.length=_; omega,hs.trans l4,l5,l6⟩
 ·have hw:m≠0/\n.length<=1:=hw
  exact wU (by simpa using hw.1) (zd ⟨nz hw.1,hw.2⟩)⟩
open T PL
theorem z4R{α A B C D κ' F:Type}{a:List A}{b:List B}{c:List C}{d:List D}{e:List κ'}{f:List F}{t:T α}{Q:α->Prop}(k:t.wp Q):(oW a b c d e f t).wp Q :=
 za (za (za (za (za (za k)))))
instance (f:Form) (d:zt) (s:q9) (x:Bool):Sp (ZX f d s x) (FW 8200 f/\Dw d) (λr=>(r.2.2=0->Dx f r.1)/\r.2.1.length<=1):=⟨λ⟨hF,hD⟩=>by
 unfold ZX
 refine z8 hF.2.2.2.1.1 λi hi=>z8 ⟨hF,hD⟩ λy hy=>zg (λ_=>zd ⟨nz (a:=1) (xo),U _⟩) λe=>zg (λ_=>zd ⟨nz (a:=5) (xo),U _⟩) λe2 => ?_
 have i0:=yT e2
 obtain⟨-,hV,f1,f2,l1,l2,l3,l4,l5,l6⟩:=hy (by simpa using e)
 have Ul:=hi.2
 have j1:0<=i/\i<(d.2.2.2.2.1.length:Int):=Z
 have j2:0<=i/\i<(d.2.2.1.length:Int):=Z
 refine zc (λ_=>j1) (zg (λ_=>zd ⟨nz (a:=1) (xo),U _⟩) λ_=>zc (λ_=>j1) (zg (λ_=>zd ⟨nz (a:=12) (xo),U _⟩) λ_=>z8 hD λ_ e => ?_))
 subst e
 refine z8 ⟨xo,xo⟩ λk hk => ?_
 have ny:rl k<=2:=hk.2
 have hv:=E5 hD.2.2.1 i j2.1 j2.2
 have hD5:=hD.2.2.2.2.1
 have q1:=CT d.2.2.2.2.1 (0+i.toNat) (false,false,(k.1,k.2.1,k.2.2.1,()),()) hD5 hk.1 (Y ny (xo))
 have q2:=CT _ (0+i.toNat) (true,false,((nth d.2.2.1 i (zb zm)).1,(nth d.2.2.1 i (zb zm)).2.1,(nth d.2.2.1 i (zb zm)).2.2.1,()),()) q1 hv.1 hv.2
 dsimp only
 refine qk j1 (zc ⟨rfl,Z⟩ (xe (xv (P:=λz=>∃ (w:zt) (ps:List qh),z=(w,d.1,d.2.1,d.2.2.1,d.2.2.2.1,ps,d.2.2.2.2.2.1,())/\Ps ps/\ps.length=d.2.2.2.2.1.length) (zg (λ_=>qk j2 (qk j1 (zc ⟨rfl,by rw[List.length_set]; omega⟩ ?_))) λ_ => ?_) ?_)))
 ·exact za (za (za (za (zc (by rw[List.length_set,List.length_set]) (za (zh (zh (zh (zh (zc ⟨by rw[List.length_set,List.length_set],rfl,by rw[List.length_set,List.length_set]⟩ (zh (zd ⟨_,_,rfl,q2,by rw[List.length_set,List.length_set]⟩))))))))))))
 ·exact za (za (za (za (zc (by rw[List.length_set]) (za (zh (zh (zh (zh (zc ⟨by rw[List.length_set],rfl,by rw[List.length_set]⟩ (zh (zd ⟨_,_,rfl,q1,by rw[List.length_set]⟩))))))))))))
 ·rintro _ ⟨w,ps,rfl,hp,Gk⟩
  dsimp only
  rw[bg,bg,bg,bg,bg,bg]
  refine z4R (z8 ⟨hF,hD.1,hD.2.1,hD.2.2.1,hD.2.2.2.1,hp,hD.2.2.2.2.2⟩ λ⟨z,A,B,r,s,t,u,v⟩ hr=>za (za (za (za (za (zd ?_))))))
  rw[bg,bg,bg,bg,bg]
  exact hr⟩
open T PL
instance (a b:List Int):Sp (jx a b) (a.length<=1000000) (λ_=>True):=⟨λh=>by
 unfold jx eA
 refine zg (λe=>zd trivial) λe => ?_
 have e:(a.length:Int)=b.length:=by simpa using e
 refine xe (xv (P:=λz=>True) ?_ λz hz => ?_)
 ·refine vx (σ:=Int) (λi=>0<=i/\i<=a.length) (λi=>(a.length-i).toNat) ⟨Z,Z⟩ λi hi => ?_
  unfold gy
  refine zg (λJ => ?_) λJ=>zd trivial
  have J:=uf J
  have hw:qj (i+1)=i+1:=qo (Z) (Z)
  refine qk ⟨hi.1,J⟩ (qk ⟨hi.1,Z⟩ (zg (λk=>zd trivial) λk=>zd ?_))
  rw[hw]; exact⟨⟨Z,Z⟩,Z⟩
 ·rcases z with z | z<;>exact zd trivial⟩
theorem z05{a:Lf.Rat}:a.2.1.length<=rl a/\a.2.2.1.length<=rl a:=by unfold rl; omega
instance (a b:Lf.Rat):Sp (XU a b) (rg a/\rg b/\rl a<=20700/\rl b<=20700) (λ_=>True):=⟨λ⟨h1,X,h3,h4⟩=>by
 unfold XU
 refine z8 ⟨h1,Y h3 (xo)⟩ λx N=>z8 ⟨X,Y h4 (xo)⟩ λy _=>zg (λ_ => ?_) λ_=>zd trivial
 have l1:=(z05 (a:=x)).1
 have l2:=(z05 (a:=x)).2
 have l3:=N.2.1
 exact z8 (Z) λc _=>zg (λ_=>z8 (Z) λd _=>zd trivial) λ_=>zd trivial⟩
instance (a b:vR):Sp (Us a b) (ck a/\ck b) (λ_=>True):=⟨λ⟨ha,I⟩=>by
 have ka:=Y (F5 a) ha.2.1
 have kb:=Y (F5 b) I.2.1
 unfold Us
 refine zg (λ_=>z8 ⟨ha.1.2,I.1.2,ka,kb⟩ λc _=>zg (λ_=>xe (xv (P:=λ_=>True) ?_ λ_ _=>zd trivial)) λ_=>zd trivial) λ_=>zd trivial
 unfold jv yB
 refine zg (λe=>zd trivial) λe => ?_
 have e:(a.2.1.length:Int)=b.2.1.length:=by simpa using e
 have n1:=ha.2.2
 refine xe (xv (P:=λz=>True) ?_ λz hz => ?_)
 ·refine vx (σ:=Int) (λi=>0<=i/\i<=a.2.1.length) (λi=>(a.2.1.length-i).toNat) ⟨Z,Z⟩ λi hi => ?_
  unfold j3
  refine zg (λJ => ?_) λJ=>zd trivial
  have J:=uf J
  have hw:qj (i+1)=i+1:=qo (Z) (Z)
  have m1:nth a.2.1 i (zb qq)∈a.2.1:=wa hi.1 J
  have m2:nth b.2.1 i (zb qq)∈b.2.1:=wa hi.1 (Z)
  have c1:tb a.2.1<=cb a:=by unfold cb; omega
  have c2:tb b.2.1<=cb b:=by unfold cb; omega
  have r1:=Y (Y (Wf m1) c1) ha.2.1
  have r2:=Y (Y (Wf m2) c2) I.2.1
  refine qk ⟨hi.1,J⟩ (qk ⟨hi.1,Z⟩ (xe (xv (P:=λ_=>True) ?_ λd _=>zg (λk=>zd trivial) λk=>zd ?_)))
  ·unfold nf
   exact zg (λ_=>z8 ⟨ha.1.1 _ m1,I.1.1 _ m2,r1,r2⟩ λc _=>zd trivial) λ_=>zd trivial
  ·rw[hw]; exact⟨⟨Z,Z⟩,Z⟩
 ·rcases z with z | z<;>exact zd trivial⟩
open T PL
abbrev X5:=List Lf.Rat×List Bool×List Lf.Rat×List qh×List Bool×Unit
abbrev xd(x:X5)(a:List Int):zt:=(x.1,x.2.1,x.2.2.1,a,x.2.2.2.1,x.2.2.2.2.1,())
instance (f:Form) (d:X5) (rw:List Int):Sp (eJ f d rw) (FW 8200 f/\Dw (xd d rw)) (λr=>match r with | .inl (k,y,a,b,c,e)=>k=0/\y=rw/\a=f/\Bt f b c e | .inr (n,k,_)=>k≠0/\n.length<=1):=⟨λ⟨hF,hD⟩=>by
 unfold eJ
 rw[bg]
 refine za (z8 trivial λo ho=>zg (λ_=>za (zd ⟨xo,U _⟩)) λe => ?_)
 have ho:d.2.2.1.length=f.2.2.2.1.length/\rw.length=f.2.2.2.2.1.length/\d.2.2.2.1.length=f.2.2.2.1.length/\d.2.2.2.2.1.length=f.2.2.2.1.length:=ho (by simpa using e)
 have hPn:Ps d.2.2.2.1:=hD.2.2.2.2.1
 refine z8 ⟨hF,hD.1,hD.2.1⟩ λ⟨p,n,k,g,b⟩ hz=>zg (λe=>za (zd ⟨by simpa using(qG.1 e).1,zT _⟩)) λ_=>zg (λe=>za (zd ⟨by simpa using e,U _⟩)) λe => ?_
 obtain⟨hg,I,hgb,zdn,hz⟩:=hz
 obtain⟨hV,h1,X,h3,h4⟩:=hz (by simpa using e)
 dsimp only at hg I hgb zdn
 refine zh (za (zh (za (za (zh (zc ⟨rfl,rfl,rfl⟩ (zh (zc rfl (xe (xv (P:=λz=>∃ c:List Int,z=(rw,d,g,b,(),f,c)/\c.length=b.length) ?_ ?_))))))))))
 ·unfold Zd
  refine vx (λz:Int×List Int×X5×List vR×List Int×Unit×Form×List Int=>∃ (i:Int) (c:List Int),z=(i,rw,d,g,b,(),f,c)/\0<=i/\i<=b.length/\(c.length:Int)=i) (λz:Int×List Int×X5×List vR×List Int×Unit×Form×List Int=>((b.length:Int)-z.1).toNat) ⟨0,[],rfl,xo,Z,rfl⟩ ?_
  rintro _ ⟨i,c,rfl,i0,i1,hc⟩
  unfold ma
  refine zg (λJ => ?_) λJ => ?_
  ·have J:=uf J
   have hn:=DF _ _ (0+i.toNat) I (Z)
   have hw:qj (i+1)=i+1:=qo (Z) (Z)
   have Gi:wm b (0+i.toNat) (zb (.int .i64))<rw.length:=by have:=hn.2; have:=ho.2.1; omega
   refine qk ⟨i0,J⟩ (zc ⟨rfl,Z⟩ (qk ⟨hn.1,Gi⟩ (zc ⟨rfl,Z⟩ (vJ (Z) (zh (za (zh (za (za (zh (zc (cu1 _ _) (zh (zc (JN _ _).symm (zd ?_))))))))))))))
   rw[hw]
   exact⟨⟨i+1,_,rfl,Z,Z,by rw[JN]; omega⟩,by simp only; omega⟩
  ·have J:=yT J
   exact za (zh (za (za (zh (zh (zh (za (zd ⟨c,rfl,Z⟩))))))))
 ·rintro _ ⟨c,rfl,hc⟩
  refine za (zh (za (za (zh (zh (zh (za (xe (xv (P:=λz=>∃ (x:List vR) (y q:List Int),z=(rw,d,x,y,(),f,q)/\Bt f x q y) ?_ ?_)))))))))
  ·unfold Ze
   have hP3:=ho.2.2.1
   refine vx (λz:Int×List Int×X5×List vR×List Int×Unit×Form×List Int=>∃ (i:Int) (x:List vR) (y q:List Int),z=(i,rw,d,x,y,(),f,q)/\0<=i/\i<=d.2.2.2.1.length/\Bt f x q y/\(x.length:Int)<=64+i) (λz:Int×List Int×X5×List vR×List Int×Unit×Form×List Int=>((d.2.2.2.1.length:Int)-z.1).toNat) ⟨0,_,_,_,rfl,xo,Z,⟨hg,Z,Z,zbA _ _ _ I (Z)⟩,Z⟩ ?_
   rintro _ ⟨i,x,y,c,rfl,i0,i1,hB,N⟩
   obtain⟨b1,b2,b3,b4⟩:=hB
   unfold mb
   refine zg (λJ => ?_) λJ => ?_
   ·have J:=uf J
    have hp:=Li d.2.2.2.1 i hPn i0 J
    have hw:qj (i+1)=i+1:=qo (Z) (Z)
    refine qk ⟨i0,J⟩ (zg (λ_=>za (zh (za (za (zh (zh (zh (za (zd ?_))))))))) λ_ => ?_)
    ·rw[hw]
     exact⟨⟨i+1,_,_,_,rfl,Z,Z,⟨b1,b2,b3,b4⟩,Z⟩,by simp only; omega⟩
    ·have q1:i<f.2.2.2.1.length:=Z
     have q2:f.2.2.2.1.length<=10000:=Z
     have q3:f.2.2.2.2.1.length<=10000:=Z
     refine mD (z8 ⟨hp,⟨b1,Z⟩,Z,Z,i0,q1,q2,q3,b4⟩ λ⟨e,p,q,r⟩ hr=>za (zh (za (za (zh (zh (zh (za (zd ?_)))))))))
     obtain⟨⟨r1,r2⟩,r3,⟨r4,r5⟩,r6⟩:=hr
     dsimp only at r1 r2 r3 r4 r5 r6
     subst r6
     rw[hw]
     exact⟨⟨i+1,p,r,q,rfl,Z,Z,⟨r1,Z,Z,r5⟩,Z⟩,by simp only; omega⟩
   ·exact za (zh (za (za (zh (zh (zh (za (zd ⟨x,y,c,rfl,b1,b2,b3,b4⟩))))))))
  ·rintro _ ⟨x,y,q,rfl,hB⟩
   exact za (mD (zd ⟨rfl,rfl,rfl,hB⟩))⟩
open T PL
instance (b:List Int) (c:Int):Sp (uP b c) (b.length<=1000000) (λr=>r<b.length):=⟨λh=>by
 unfold uP yt
 refine xe (xv (P:=λz:Unit⊕Int=>z.elim (λ_=>True) λr:Int=>r<(b.length:Int)) ?_ λz hz => ?_)
 ·refine vx (σ:=Int) (λi=>0<=i/\i<=b.length) (λi=>(b.length-i).toNat) ⟨Z,Z⟩ λi hi => ?_
  unfold yu
  refine zg (λJ => ?_) λJ=>zd trivial
  have J:=uf J
  have hw:qj (i+1)=i+1:=qo (Z) (Z)
  refine qk ⟨hi.1,J⟩ (zg (λk=>zd J) λk=>zd ?_)
  rw[hw]; exact⟨⟨Z,Z⟩,Z⟩
 ·rcases z with z | z
  ·exact zd (by show(-1:Int)<_; omega)
  ·exact zd hz⟩
abbrev Z12:=Int×List Int×X5×zt×Form×List vR×List Int×List Int×Form×List vR×List Int×List Int
theorem zaM{α A:Type}{f:List A}{a b:List vR}{g c h d:List Int}{t:T α}{Q:α->Prop}(k:t.wp Q):(V f (oC f (oC a (oC g (oC c (V a (V g (V c (oC b (oC h (oC d (V b (V h (V d t)))))))))))))).wp Q :=
 za (zh (mD (mD k)))
instance (f:Form) (d:zt) (u:Unit) (a1:List Lf.Rat) (a2:List Bool) (a3:List Lf.Rat) (a4:List Int) (a5:List qh) (a6:List Bool):Sp (ig f d u a1 a2 a3 a4 a5 a6) (FW 8200 f/\Dw d/\Dw (a1,a2,a3,a4,a5,a6,())) (λr=>(r.2.2.1=0->Dx f (D8 r))/\r.2.1.length<=1):=⟨λ⟨hF,hD,hE⟩=>by
 unfold ig
 rw[bg,bg,bg,bg,bg]
 dsimp only
 refine z8 ⟨hF,hD⟩ λz hz => ?_
 have hE':Dw (xd (a1,a2,a3,a5,a6,()) a4):=hE
 rcases z with⟨k,a,b,c,e⟩ | ⟨n,m⟩
 ·obtain⟨rfl,rfl,⟨b1,b2,b3,b4⟩,-⟩:=hz
  refine xl rfl (za (za (za (za (za (zh (za (z8 ⟨hF,hE'⟩ λw hw => ?_))))))))
  rcases w with⟨k,y,v,b',c',e'⟩ | ⟨n,m,x⟩
  ·obtain⟨rfl,rfl,rfl,⟨d1,d2,d3,d4⟩⟩:=hw
   have n1:=b1.1
   have n2:=d1.1
   have n4:y.length<=1000000000:=hE.2.2.2.1
   refine xl rfl (za (zc ⟨rfl,rfl,rfl⟩ (mD (mD (xe (xv (P:=λz=>∃ (o:List Int) (w:zt),z=(o,(a1,a2,a3,a5,a6,()),w,v,b,c,e,v,b',c',e')/\ou o/\o.length=y.length) ?_ ?_))))))
   ·unfold QR
    refine vx (λz:Z12=>∃ (i:Int) (o:List Int) (w:zt),z=(i,o,(a1,a2,a3,a5,a6,()),w,v,b,c,e,v,b',c',e')/\(ou o/\o.length=y.length)/\0<=i/\i<=y.length) (λz:Z12=>((y.length:Int)-z.1).toNat) ⟨0,_,_,rfl,⟨hE.2.2.2.2.2.2,rfl⟩,xo,Z⟩ ?_
    rintro _ ⟨i,o,w,rfl,⟨hoo,ho⟩,i0,i1⟩
    unfold o9
    dsimp only
    refine zg (λJ=>za ?_) λJ=>zaM (zd ⟨o,w,rfl,hoo,ho⟩)
    have J:=uf J
    have hw:qj (i+1)=i+1:=qo (Z) (Z)
    rw[bg]
    refine z8 (Z) λv1 hv1=>za ?_
    rw[bg]
    refine z8 (Z) λv2 FR=>xe (xv (P:=λz=>∃ q:Bool,z=(q,o,(a1,a2,a3,a5,a6,()),w,v,b,c,e,v,b',c',e')) (zg (λ_=>zaM (zd ⟨_,rfl⟩)) λg1=>zg (λ_=>zaM (zd ⟨_,rfl⟩)) λg2 => ?_) ?_)
    ·have g1:=yT g1
     have g2:=yT g2
     refine qk ⟨Z,Z⟩ (zc ⟨rfl,Z⟩ (qk ⟨Z,Z⟩ (zc ⟨rfl,Z⟩ (z8 ⟨b1.2 _ (Mu (Z)),d1.2 _ (Mu (Z))⟩ λq _=>zaM (zd ⟨_,rfl⟩)))))
    ·rintro _ ⟨q,rfl⟩
     dsimp only
     refine zg (λ_=>qk ⟨i0,Z⟩ (zc ⟨rfl,Z⟩ (zc (by rw[List.length_set]) (zc ⟨by rw[List.length_set],rfl,by rw[List.length_set]⟩ (mD (mD (zd ?_))))))) λ_=>za (zh (mD (mD (zd ?_))))
     ·rw[hw]
      exact⟨⟨i+1,_,w,rfl,⟨MI hoo _ (xo),by rw[List.length_set]; exact ho⟩,Z,Z⟩,by simp only; omega⟩
     ·rw[hw]
      exact⟨⟨i+1,o,w,rfl,⟨hoo,ho⟩,Z,Z⟩,by simp only; omega⟩
   ·rintro _ ⟨o,w,rfl,hoo,ho⟩
    dsimp only
    rw[bg]
    exact za (z8 ⟨hF,hE.1,hE.2.1,hE.2.2.1,by show o.length<=_; omega,hE.2.2.2.2.1,hE.2.2.2.2.2.1,hoo⟩ λr hr=>zfb (zd hr))
  ·have hw:m≠0/\n.length<=1:=hw
   exact wU (by simpa using hw.1) (zaL (zd ⟨nz hw.1,hw.2⟩))
 ·have hz:m≠0/\n.length<=1:=hz
  exact wU (by simpa using hz.1) (zaL (zd ⟨nz hz.1,hz.2⟩))⟩
instance (a:Param) (s:q9):Sp (gF a s) True (λ_=>True):=⟨λ_=>by unfold gF; exact zd trivial⟩
instance (a:Switch) (s:q9):Sp (yD a s) True (λ_=>True):=⟨λ_=>by unfold yD; exact zd trivial⟩
theorem D8e{z:List Lf.Rat×Unit}{w:List q9}{x:Int}{h:List Lf.Rat}{i:List Bool}{j:List Int}{k:List qh}{l:List Bool}{Q:zt×List q9×Int->Prop}(hr:Q ((h,i,z.1,j,k,l,()),w,x)):(V h (V i (V j (V k (V l (T.ret ((zQ 0 (zK (0+h.length) h),zQ 0 (zK (0+i.length) i),z.1,zQ 0 (zK (0+j.length) j),zQ 0 (zK (0+k.length) k),zQ 0 (zK (0+l.length) l),()),w,x))))))).wp Q:=by
 rw[bg,bg,bg,bg,bg]
 exact za (za (za (za (za (zd hr)))))
instance (f:Form) (d:zt) (s:q9) (v:Lf.Rat):Sp (oS f d s v) (FW 8200 f/\Dw d/\rg v/\rl v<=1700) (λr=>(r.2.2=0->Dx f r.1)/\r.2.1.length<=1):=⟨λ⟨hF,hD,hv⟩=>by
 unfold oS
 refine z8 ⟨by have:=hF.2.1.1; omega,λ_ _=>trivial⟩ λi hi=>z8 ⟨hF,hD⟩ λy hy=>zg (λ_=>zd ⟨nz (a:=1) (xo),U _⟩) λe=>zg (λ_=>zd ⟨nz (a:=5) (xo),U _⟩) λe2=>z8 hv λz _=>zg (λ_=>zd ⟨nz (a:=8) (xo),zT _⟩) λ_=>z8 hD λ_ e3=>z8 ⟨hv.1,Y hv.2 (xo)⟩ λn hn => ?_
 subst e3
 have i0:=yT e2
 obtain⟨-,hV,f1,f2,l1,l2,l3,l4,l5,l6⟩:=hy (by simpa using e)
 have Ul:i<f.2.1.length:=by rcases hi with⟨h,_⟩ | ⟨_,h,_⟩<;>omega
 have Dt:=hn.2.1
 have j1:0<=i/\i<(d.1.length:Int):=Z
 have hs:=E7 d.1 (0+i.toNat) n hD.1 hn.1 (Z)
 dsimp only
 exact qk j1 (zc ⟨rfl,Z⟩ (zc ⟨by rw[List.length_set],rfl,by rw[List.length_set]⟩ (zh (zh (zh (zh (zh (zc (by rw[List.length_set]) (za (za (za (za (za (z8 ⟨hF,hD,hs,hD.2⟩ λ⟨z,w,x,h,i,j,k,l⟩ hr=>D8e hr))))))))))))))⟩
instance (f:Form) (d:zt) (s:q9) (v:Bool):Sp (mK f d s v) (FW 8200 f/\Dw d) (λr=>(r.2.2=0->Dx f r.1)/\r.2.1.length<=1):=⟨λ⟨hF,hD⟩=>by
 unfold mK
 refine z8 ⟨by have:=hF.1.1; omega,λ_ _=>trivial⟩ λi hi=>z8 ⟨hF,hD⟩ λy hy=>zg (λ_=>zd ⟨nz (a:=1) (xo),U _⟩) λe=>zg (λ_=>zd ⟨nz (a:=5) (xo),U _⟩) λe2=>z8 hD λ_ e3 => ?_
 subst e3
 have i0:=yT e2
 obtain⟨-,hV,f1,f2,l1,l2,l3,l4,l5,l6⟩:=hy (by simpa using e)
 have Ul:i<f.1.length:=by rcases hi with⟨h,_⟩ | ⟨_,h,_⟩<;>omega
 have j1:0<=i/\i<(d.2.1.length:Int):=Z
 dsimp only
 exact qk j1 (zc ⟨rfl,Z⟩ (zh (zc ⟨by rw[List.length_set],rfl,by rw[List.length_set]⟩ (zh (zh (zh (zh (za (zc (by rw[List.length_set]) (za (za (za (za (z8 ⟨hF,hD,hD.1,by show(List.set d.2.1 _ v).length<=_; rw[List.length_set]; exact hD.2.1,hD.2.2⟩ λ⟨z,w,x,h,i,j,k,l⟩ hr=>D8e hr))))))))))))))⟩
open T PL
instance (a:Switch) (s:eY):Sp (yF a s) True (λ_=>True):=⟨λ_=>by unfold yF; exact zd trivial⟩
instance (a:eY) (s:q9):Sp (eb a s) True (λ_=>True):=⟨λ_=>by unfold eb; exact zd trivial⟩
instance (f:Form) (l:List Bool):Sp (kv f l) (FW 8200 f) (λr=>r.length=f.2.2.1.length):=⟨λhF=>by
 have n1:=hF.1.1
 have n2:=hF.2.2.1.1
 unfold kv Zw
 refine zc ⟨rfl,rfl,rfl⟩ (zc rfl (xe (xv (P:=λz=>z.length=f.2.2.1.length) ?_ λz hz=>za (zd (by rw[bg]; exact hz)))))
 refine vx (σ:=Int×List Bool) (λz=>0<=z.1/\z.1<=f.2.2.1.length/\(z.2.length:Int)=z.1) (λz=>(f.2.2.1.length-z.1).toNat) ⟨xo,Z,rfl⟩ ?_
 rintro⟨i,a⟩ ⟨i0,i1,R⟩
 dsimp only at i0 i1 R
 unfold mw
 refine zg (λJ => ?_) λJ=>zh (za (zd (by have:=yT J; show a.length=_; omega)))
 have J:=uf J
 have hw:qj (i+1)=i+1:=qo (Z) (Z)
 have fin:∀ b:Bool,(oA a 1 (oM (a.length+1) (a++[b]).length (T.ret (.inl (qj (i+1),a++[b])):T ((Int×List Bool)⊕List Bool)))).wp λz=>match z with | .inl s'=>(0<=s'.1/\s'.1<=f.2.2.1.length/\(s'.2.length:Int)=s'.1)/\(f.2.2.1.length-s'.1).toNat<(f.2.2.1.length-i).toNat | .inr y=>y.length=f.2.2.1.length:=λb=>by
  refine vJ (Z) (vG (JN _ _).symm (zd ?_))
  rw[hw]
  exact⟨⟨by show 0<=i+1; omega,by show i+1<=_; omega,by show((a++[b]).length:Int)=i+1; rw[JN]; omega⟩,by simp only; omega⟩
 refine qk ⟨i0,J⟩ (z8 ⟨Z,λ_ _=>trivial⟩ λc _=>zg (λ_=>fin _) λ_=>zg (λh0=>zg (λh1=>qk ⟨uf h0,uf h1⟩ (fin _)) λ_=>fin _) λ_=>fin _)⟩
def pl(i:Int):Prop:=0<=i/\i<=8200
theorem NC(l:List Bool)(a:Int)(ha:pl a):∀ n:Nat,n<=8200->pl (nW l a n).1
 | 0,_=>ha
 | n+1,h=>by
  unfold nW
  split
  ·exact⟨by show(0:Int)<=n; omega,by show(n:Int)<=8200; omega⟩
  ·exact NC l a ha n (Z)
instance (f:Form) (l:List Bool) (a:Int):Sp (pL f l a) (FW 8200 f/\pl a) (λr=>pl r.1):=⟨λ⟨hF,ha⟩=>by
 have n2:=hF.2.2.1.1
 unfold pL
 exact z8 hF λr hr=>zc (Z) (zd (NC r a ha _ (Z)))⟩
instance (f:Form) (l:List Bool) (a:Int):Sp (pM f l a) (FW 8200 f/\pl a) (λr=>pl r.1):=⟨λ⟨hF,ha⟩=>by
 have n2:=hF.2.2.1.1
 unfold pM Jj
 refine z8 hF λr hr=>xe (xv (P:=λz:Unit⊕(Int×Bool)=>z.elim (λ_=>True) λr=>pl r.1) ?_ λz hz => ?_)
 ·refine vx (σ:=Int) (λi=>0<=i/\i<=r.length) (λi=>(r.length-i).toNat) ⟨Z,Z⟩ λi hi => ?_
  unfold Qp
  refine zg (λJ => ?_) λJ=>zd trivial
  have J:=uf J
  have hw:qj (i+1)=i+1:=qo (Z) (Z)
  refine qk ⟨hi.1,J⟩ (zg (λk=>zd ⟨hi.1,by show i<=8200; omega⟩) λk=>zd ?_)
  rw[hw]; exact⟨⟨Z,Z⟩,Z⟩
 ·rcases z with z | z
  ·exact zd ha
  ·exact zd hz⟩
instance (f:Form) (l:List Bool) (a:Int):Sp (Zv f l a) (FW 8200 f/\pl a) (λr=>pl r):=⟨λ⟨hF,ha⟩=>by
 unfold Zv
 refine z8 hF λr hr=>zc (λh0 h1=>⟨uf h0,uf h1⟩) (zg (λ_=>zd ha) λ_=>z8 ⟨hF,ha⟩ λx N=>zg (λ_=>zd N) λ_=>z8 ⟨hF,ha⟩ λy hy=>zg (λ_=>zd hy) λ_=>zd ⟨xo,xo⟩)⟩
instance (f:Form) (l:List Bool) (s:q9):Sp (WL f l s) (FW 8200 f) (λr=>r.2=0->pl r.1):=⟨λhF=>by
 have n2:=hF.2.2.1.1
 unfold WL
 refine z8 ⟨Z,λ_ _=>trivial⟩ λi hi=>zg (λ_=>zd (nz (a:=5) (xo))) λh0=>z8 hF λr hr => ?_
 have h0:=yT h0
 have h1:i<f.2.2.1.length:=by rcases hi with⟨h,_⟩ | ⟨_,h,_⟩<;>omega
 exact qk ⟨Z,Z⟩ (zg (λ_=>zd (nz (a:=12) (xo))) λ_=>zd λ_=>⟨by show 0<=i; omega,by show i<=8200; omega⟩)⟩
def sL(l:List q9):Prop:=∀ s∈l,s.length<=1000000000
def Hw(h:vC):Prop:=h.1.length+h.2.1.length<=32/\sL h.1/\sL h.2.1
instance (l:List q9):Sp (wV l) (l.length<=1000) (λr=>r=l):=⟨λh=>by
 unfold wV
 refine zc (λe r h => ?_) (zc ⟨rfl,rfl,rfl,Z⟩ (vG (Z) (zd rfl)))
 subst e
 exact⟨⟨rfl,rfl,rfl⟩,rfl,h.2.2.2⟩⟩
instance (l:List q9):Sp (wT l) (l.length<=1000) (λr=>r=l):=⟨λh=>by
 unfold wT
 dsimp only
 refine zc (λe r h => ?_) (zc ⟨rfl,rfl,rfl,Z⟩ (zc rfl (zd (by rw[Nat.zero_add]; exact bg l))))
 subst e
 exact h.2.2⟩
instance (h:vC) (s:q9):Sp (Wz h s) (Hw h/\s.length<=1000000000) (λr=>Hw r/\r.1.length=min 32 (h.1.length+1)/\r.2.1.length=0):=⟨λ⟨⟨h1,X,h3⟩,hs⟩=>by
 unfold Wz
 refine z8 (Z) λc hc => ?_
 subst hc
 dsimp only
 have R:∀ n:Nat,n<=33->∃ k:Nat,dZ 0 (qj ((n:Int)-32))=k/\k<=n/\n-k=min 32 n:=λn hn=>by
  rw[qo (Z) (Z)]
  unfold dZ
  split
  ·exact⟨n-32,Z,Z,Z⟩
  ·exact⟨0,Z,Z,Z⟩
 obtain⟨k,k1,k2,k3⟩:=R (h.1.length+1) (Z)
 rw[k1]
 refine vJ (Z) (zc ⟨Z,Z,Z⟩ (zc rfl (zd ⟨⟨?_,λx N => ?_,nofun⟩,?_,rfl⟩)))
 ·show(zQ _ (zK _ _)).length+0<=32
  rw[List.length_drop,zH]
  omega
 ·rcases zG.1 (zF (List.mem_of_mem_drop N))with q | q
  ·exact X x q
  ·rw[zE.1 q]; exact hs
 ·show(zQ _ (zK _ _)).length=_
  rw[List.length_drop,zH,JN]
  omega⟩
instance (b f:List q9) (s:q9):Sp (Zl b f s) (1<=b.length/\b.length+f.length<=32/\sL b/\sL f/\s.length<=1000000000) (λr=>r.1.length+1=b.length/\r.2.1.length=f.length+1/\sL r.1/\sL r.2.1/\r.2.2.length<=1000000000):=⟨λ⟨h0,h1,X,h3,h4⟩=>by
 have hw:qj ((b.length:Int)-1)=((b.length-1:Nat):Int):=by rw[qo (Z) (Z)]; omega
 unfold Zl
 rw[hw]
 have hc:(uI (e:=.str) 0 ((b.length-1:Nat):Int) b)=b.take (b.length-1):=rfl
 have R:(b.take (b.length-1)).length=b.length-1:=by rw[zH]; omega
 refine zc ⟨xo,Z,Z⟩ (z8 (by rw[hc]; omega) λx N=>z8 (Z) λy hy => ?_)
 subst N hy
 refine vJ (Z) (qk ⟨Z,Z⟩ (za (zc rfl (zd ?_))))
 rw[bg,hc]
 have e2:zQ 0 (zK (0+(y.length+1)) (y++[s]))=y++[s]:=by rw[<- JN y s]; exact bg _
 rw[e2]
 refine⟨by show(b.take _).length+1=_; omega,JN _ _,λx N=>X x (zF N),ga h3 h4,X _ (wa (Z) (Z))⟩⟩
instance (h:vC) (s:q9):Sp (Zk h s) (Hw h/\s.length<=1000000000) (λr=>(Hw r.1/\r.2.1.length<=1000000000)/\(r.2.2=true->r.1.1.length+1=h.1.length/\r.1.2.1.length=h.2.1.length+1)):=⟨λ⟨⟨h1,X,h3⟩,hs⟩=>by
 unfold Zk
 refine zg (λ_=>z8 (Z) λx N=>z8 (Z) λy hy=>zd ?_) λe=>z8 ⟨by have:=beq_eq_false_iff_ne.1 e; omega,h1,X,h3,hs⟩ λz hz=>zd ?_
 ·subst N hy; exact⟨⟨⟨h1,X,h3⟩,U _⟩,nofun⟩
 ·exact⟨⟨⟨by show z.1.length+z.2.1.length<=32; omega,hz.2.2.1,hz.2.2.2.1⟩,hz.2.2.2.2⟩,λ_=>⟨hz.1,hz.2.1⟩⟩⟩
instance (h:vC) (s:q9):Sp (Zj h s) (Hw h/\s.length<=1000000000) (λr=>(Hw r.1/\r.2.1.length<=1000000000)/\(r.2.2=true->r.1.1.length=h.1.length+1/\r.1.2.1.length+1=h.2.1.length)):=⟨λ⟨⟨h1,X,h3⟩,hs⟩=>by
 unfold Zj
 refine zg (λ_=>z8 (Z) λx N=>z8 (Z) λy hy=>zd ?_) λe=>z8 ⟨by have:=beq_eq_false_iff_ne.1 e; omega,Z,h3,X,hs⟩ λz hz=>zd ?_
 ·subst N hy; exact⟨⟨⟨h1,X,h3⟩,U _⟩,nofun⟩
 ·exact⟨⟨⟨by show z.2.1.length+z.1.length<=32; omega,hz.2.2.2.1,hz.2.2.1⟩,hz.2.2.2.2⟩,λ_=>⟨hz.2.1,hz.1⟩⟩⟩
end Go.AM.Lf
