/-
  Plain laws of the lifted program, part 1.
-/
import Derived.Test.YtjklmealdnfhfaaGreatDoorLf1
import Derived.Test.YtjklmealdnfhfaaGreatDoorAmA
import Derived.Test.YtjklmealdnfhfaaGreatDoorAmD
import Derived.KernelRfl
import Derived.Test.YtjklmealdnfhfaaGreatDoorQ0
set_option linter.unusedVariables false
open List renaming getD_eq_getElem?_getD -> zA, mem_singleton -> zE, mem_of_mem_take -> zF, mem_append -> zG, length_take -> zH, mem_or_eq_of_mem_set -> zI, getElem?_eq_getElem -> zJ, take -> zK, take_of_length_le -> zL, mem_cons_of_mem -> zM, getElem_append_left -> zN, getElem_mem -> zO, drop -> zQ, mem_cons -> zR, mem_cons_self -> zV, contains_eq_mem -> zW, getElem_of_mem -> zX, drop_eq_getElem_cons -> zY, pairwise_iff_getElem -> zZ, getElem_set -> qA, drop_of_length_le -> qC, map_append -> qD, countP_le_length -> qE, mem_append_right -> qF, length -> qI, mem_append_left -> qJ, replicate -> qK
open Nat renaming le_trans -> Y, zero_le -> V, le_refl -> zT
open Int renaming eq_ofNat_of_zero_le -> X, le_trans -> zP, toNat_natCast -> zS, le_of_lt -> qB, le_refl -> qH, toNat -> qM
open Bool renaming and_eq_true -> zU, and_eq_true_iff -> qG
open And renaming intro -> qL
open Go.AM.T (Gw bF mn qw se uo uy vA vQ vX vY vk wM wm xi xn xz z8 za ze zh zi zj)
namespace Go.AM.Lf
open T PL
theorem yR{α:Type}{P:α->Prop}{l:List α}(h:∀ x∈l,P x){a:α}(ha:P a):∀ x∈l++[a],P x:=λx N=>by
 rcases zG.1 N with k | k
 ·exact h x k
 ·rw[zE.1 k]; exact ha
def zaF(l:List Switch):Prop:=∀ x∈l,x.1.length<=KK
theorem zaG(l:List Switch)(x:Switch)(h:zaF l)(N:x.1.length<=KK):zaF (l++[x]):=yR h N
def zax(l:List Param):Prop:=∀ x∈l,x.1.length<=KK/\rg x.2.1/\rl x.2.1<=1700
theorem zay(l:List Param)(x:Param)(h:zax l)(N:x.1.length<=KK/\rg x.2.1/\rl x.2.1<=1700):zax (l++[x]):=yR h N
def zaz(l:List eK):Prop:=∀ x∈l,x.1.length<=KK/\x.2.1.length<=KK
theorem zaA(l:List eK)(x:eK)(h:zaz l)(N:x.1.length<=KK/\x.2.1.length<=KK):zaz (l++[x]):=yR h N
def zas(l:List Field):Prop:=∀ x∈l,x.1.length<=KK
theorem zat(l:List Field)(x:Field)(h:zas l)(N:x.1.length<=KK):zas (l++[x]):=yR h N
def zaD(l:List dW):Prop:=∀ x∈l,x.1.length<=KK/\x.2.2.1.length<=KK/\EW KK x.2.2.2.1/\EW KK x.2.2.2.2.1
theorem zaE(l:List dW)(x:dW)(h:zaD l)(N:x.1.length<=KK/\x.2.2.1.length<=KK/\EW KK x.2.2.2.1/\EW KK x.2.2.2.2.1):zaD (l++[x]):=yR h N
def zap(l:List Check):Prop:=∀ x∈l,x.1.length<=KK/\EW KK x.2.2.2.1/\EW KK x.2.2.2.2.1
theorem zaq(l:List Check)(x:Check)(h:zap l)(N:x.1.length<=KK/\EW KK x.2.2.2.1/\EW KK x.2.2.2.2.1):zap (l++[x]):=yR h N
def E6(b:List Switch)(c:List Param)(d:List eK)(e:List Field)(f:List dW)(g:List Check):Prop:=zaF b/\zax c/\zaz d/\zas e/\zaD f/\zap g
def c6(b:List Switch)(c:List Param)(d:List eK)(e:List Field)(f:List dW)(g:List Check):Nat:=b.length+c.length+d.length+e.length+f.length+g.length
theorem got{p:Prop} (h:p:=by
 intros
 repeat' (with_reducible first
  | refine zi ?_
  | refine zh (λ_ => ?_) (λ_ => ?_)
  | refine za ?_
  | refine ze ?_
  | refine uo ?_ ?_
  | refine qw ?_ ?_
  | refine vY ?_ ?_
  | refine vk ?_ ?_
  | refine zj ?_ ?_
  | refine vQ (λ_ _ => ?_) (λ_ _ => ?_)
  | refine z8 ?_ (λ_ _ => ?_)
  | refine vA ?_ (λ_ _ => ?_)
  | refine xn ?_
  | dsimp only)
 all_goals grind [xe,uN,ez,jy,vS,zu,j3,E6,c6,List.length_append,List.length_singleton,Yb,Wn,zaG,zay,zaA,zat,zaE,zaq]):p:=h
section
variable (a:List zx) (u:Unit) (b:List Switch) (c:List Param) (d:List eK) (e:List Field) (f:List dW) (g:List Check)
theorem wd1{l:List zx}(h:wd l)(j:Int)(h0:0<=j)(h1:j<l.length):1<=(nth l j (zb .str)).length/\(nth l j (zb .str)).length<=20000:=h _ (xw h0 h1)
variable (s:zx)
instance:Sp (bX a u b c d e f g) (E6 b c d e f g/\c6 b c d e f g<=20000/\wd a) (λr=>E6 r.2.2.1 r.2.2.2.1 r.2.2.2.2.1 r.2.2.2.2.2.1 r.2.2.2.2.2.2.1 r.2.2.2.2.2.2.2/\c6 r.2.2.1 r.2.2.2.1 r.2.2.2.2.1 r.2.2.2.2.2.1 r.2.2.2.2.2.2.1 r.2.2.2.2.2.2.2<=c6 b c d e f g+1):=⟨λh=>by
 have h1:=wd1 h.2.2
 unfold bX
 exact got⟩
instance:Sp (cM a u b c d e f g) (E6 b c d e f g/\c6 b c d e f g<=20000/\wd a) (λr=>E6 r.2.2.1 r.2.2.2.1 r.2.2.2.2.1 r.2.2.2.2.2.1 r.2.2.2.2.2.2.1 r.2.2.2.2.2.2.2/\c6 r.2.2.1 r.2.2.2.1 r.2.2.2.2.1 r.2.2.2.2.2.1 r.2.2.2.2.2.2.1 r.2.2.2.2.2.2.2<=c6 b c d e f g+1):=⟨λh=>by
 have h1:=wd1 h.2.2
 unfold cM
 exact got⟩
instance:Sp (bY a u b c d e f g) (E6 b c d e f g/\c6 b c d e f g<=20000/\wd a) (λr=>E6 r.2.2.1 r.2.2.2.1 r.2.2.2.2.1 r.2.2.2.2.2.1 r.2.2.2.2.2.2.1 r.2.2.2.2.2.2.2/\c6 r.2.2.1 r.2.2.2.1 r.2.2.2.2.1 r.2.2.2.2.2.1 r.2.2.2.2.2.2.1 r.2.2.2.2.2.2.2<=c6 b c d e f g+1):=⟨λh=>by
 have h1:=wd1 h.2.2
 unfold bY
 exact got⟩
set_option maxHeartbeats 2000000 in
instance:Sp (cN a u b c d e f g) (E6 b c d e f g/\c6 b c d e f g<=20000/\wd a) (λr=>E6 r.2.2.1 r.2.2.2.1 r.2.2.2.2.1 r.2.2.2.2.2.1 r.2.2.2.2.2.2.1 r.2.2.2.2.2.2.2/\c6 r.2.2.1 r.2.2.2.1 r.2.2.2.2.1 r.2.2.2.2.2.1 r.2.2.2.2.2.2.1 r.2.2.2.2.2.2.2<=c6 b c d e f g+1):=⟨λh=>by
 have h1:=wd1 h.2.2
 unfold cN
 exact got⟩
instance:Sp (ba a s u b c d e f g) (E6 b c d e f g/\c6 b c d e f g<=20000/\wd a/\s.length<=20000) (λr=>E6 r.2.2.1 r.2.2.2.1 r.2.2.2.2.1 r.2.2.2.2.2.1 r.2.2.2.2.2.2.1 r.2.2.2.2.2.2.2/\c6 r.2.2.1 r.2.2.2.1 r.2.2.2.2.1 r.2.2.2.2.2.1 r.2.2.2.2.2.2.1 r.2.2.2.2.2.2.2<=c6 b c d e f g+1):=⟨λh=>by
 have h1:=wd1 h.2.2.1
 unfold ba
 exact got⟩
instance:Sp (bZ a s u b c d e f g) (E6 b c d e f g/\c6 b c d e f g<=20000/\wd a/\s.length<=20000) (λr=>E6 r.2.2.1 r.2.2.2.1 r.2.2.2.2.1 r.2.2.2.2.2.1 r.2.2.2.2.2.2.1 r.2.2.2.2.2.2.2/\c6 r.2.2.1 r.2.2.2.1 r.2.2.2.2.1 r.2.2.2.2.2.1 r.2.2.2.2.2.2.1 r.2.2.2.2.2.2.2<=c6 b c d e f g+1):=⟨λh=>by
 have h1:=wd1 h.2.2.1
 unfold bZ
 exact got⟩
end
open T PL
instance (a:zx):Sp (strings_Cut a [58]) (a.length<=1000000000) (λr=>r.1.length+r.2.1.length<=a.length/\(a.length=0->r.2.2=false)):=⟨λh=>by
 obtain⟨r,h1,M⟩:=T.mn.1 ((inferInstance:Sp (strings_Cut a [58]) (a.length<=1000000000) (λr=>r.1.length+r.2.1.length<=a.length)).sp h)
 refine bF h1 ⟨M,λe => ?_⟩
 obtain rfl:=List.eq_nil_of_length_eq_zero e
 unfold strings_Cut at h1
 rw[xi (qz),xz]at h1
 cases h1; rfl⟩
theorem zlT{p:Prop} (h:p:=by
 intros
 repeat' (with_reducible first
  | refine zi ?_
  | refine zh (λ_ => ?_) (λ_ => ?_)
  | refine za ?_
  | refine ze ?_
  | refine uo ?_ ?_
  | refine qw ?_ ?_
  | refine vY ?_ ?_
  | refine vk ?_ ?_
  | refine zj ?_ ?_
  | refine vQ (λ_ _ => ?_) (λ_ _ => ?_)
  | refine z8 ?_ (λ_ _ => ?_)
  | refine vA ?_ (λ_ _ => ?_)
  | refine xn ?_
  | dsimp only)
 all_goals grind [xe]):p:=h
set_option maxHeartbeats 2000000 in
instance (s:zx) (u:Unit) (b:List Switch) (c:List Param) (d:List eK) (e:List Field) (f:List dW) (g:List Check):Sp (oR s u b c d e f g) (E6 b c d e f g/\c6 b c d e f g<=20000/\s.length<=20000)
  (λr=>E6 r.2.2.1 r.2.2.2.1 r.2.2.2.2.1 r.2.2.2.2.2.1 r.2.2.2.2.2.2.1 r.2.2.2.2.2.2.2/\c6 r.2.2.1 r.2.2.2.1 r.2.2.2.2.1 r.2.2.2.2.2.1 r.2.2.2.2.2.2.1 r.2.2.2.2.2.2.2<=c6 b c d e f g+1/\(s.length=0->c6 r.2.2.1 r.2.2.2.1 r.2.2.2.2.1 r.2.2.2.2.2.1 r.2.2.2.2.2.2.1 r.2.2.2.2.2.2.2=c6 b c d e f g)):=⟨λh=>by
 have h1 := @wd1
 unfold oR
 exact zlT⟩
def tx(l:List zx):Nat:=(l.map λs=>s.length+1).sum
theorem Fy(a b:List zx):tx (a++b)=tx a+tx b:=by unfold tx; rw[qD,List.sum_append]
theorem z2Z(c:UInt8):∀ s:zx,tx (l9 c s)=s.length+1/\∀ x∈l9 c s,x.length<=s.length:=by
 intro s
 induction s with
 | nil=>exact⟨rfl,by simp[l9]⟩
 | cons b s ih =>
  unfold l9
  split
  ·refine⟨by have:=ih.1; unfold tx at *; simp; omega,λx N => ?_⟩
   rcases zR.1 N with rfl | N
   ·simp
   ·have:=ih.2 x N; simp; omega
  ·revert ih
   generalize l9 c s=l
   intro ih
   cases l with
   | nil=>have:=ih.1; simp[tx]at this
   | cons y l =>
    refine⟨by have:=ih.1; unfold tx z8w at *; simp at *; omega,λx N => ?_⟩
    rcases zR.1 N with rfl | N
    ·have:=ih.2 y zV; simp; omega
    ·have:=ih.2 x (zM _ N); simp; omega
instance (s:zx):Sp (strings_Split s [10]) (s.length<=1000000) (λr=>tx r=s.length+1/\(∀ x∈r,x.length<=s.length)/\r.length<=s.length+1):=⟨λh=>by
 unfold strings_Split
 have h1:=z2Z 10 s
 refine zj ⟨Z,rfl⟩ (zi ⟨h1.1,h1.2,?_⟩)
 have:∀ l:List zx,l.length<=tx l:=λl=>by
  induction l with
  | nil=>simp
  | cons a l ih=>unfold tx at *; simp; omega
 have:=this (l9 10 s)
 show(l9 10 s).length<=_
 omega⟩
open T PL
abbrev F0:Form:=([],[],[],[],[],[],())
def F9(f:Form):Prop:=FW 8200 f/\∀ x∈f.2.1,rl x.2.1<=1700
theorem z92{b:List Switch}{c:List Param}{d:List eK}{e:List Field}{f:List dW}{g:List Check}(h:E6 b c d e f g)(k:c6 b c d e f g<=8200):F9 (b,c,d,e,f,g,()):=by
 obtain⟨h1,M,h3,h4,h5,h6⟩:=h
 unfold c6 at k
 unfold F9 FW
 dsimp only
 exact⟨⟨⟨Z,h1⟩,⟨Z,λx N=>⟨(M x N).1,(M x N).2.1,Y (M x N).2.2 (xm)⟩⟩,⟨Z,h3⟩,⟨Z,h4⟩,⟨Z,h5⟩,Z,h6⟩,λx N=>(M x N).2.2⟩
theorem E60:E6 [] [] [] [] [] []:=⟨nofun,nofun,nofun,nofun,nofun,nofun⟩
theorem SP(l:List zx)(i:Int)(h0:0<=i)(h1:i<l.length):tx (l.take (i+1).toNat)=tx (l.take i.toNat)+((nth l i (zb .str)).length+1):=by
 rw[mj l i (zb .str) h0 h1,Fy]; rfl
theorem Pp(l:List zx)(n:Nat):tx (l.take n)<=tx l:=by
 have:=Fy (l.take n) (l.drop n)
 rw[List.take_append_drop]at this
 omega
theorem z5s{p:Prop} (h:p:=by
 intros
 repeat' (with_reducible first
  | refine zi ?_
  | refine zh (λ_ => ?_) (λ_ => ?_)
  | refine za ?_
  | refine ze ?_
  | refine uo ?_ ?_
  | refine qw ?_ ?_
  | refine vY ?_ ?_
  | refine vk ?_ ?_
  | refine zj ?_ ?_
  | refine vQ (λ_ _ => ?_) (λ_ _ => ?_)
  | refine z8 ?_ (λ_ _ => ?_)
  | refine vA ?_ (λ_ _ => ?_)
  | refine xn ?_
  | dsimp only)
 all_goals grind [xe,zu,j3,yE]):p:=h
instance (u:List zx) (s0):Sp (rR u (u.length:Int) s0) (s0=(0,(),(),[],[],[],[],[],[],[],[],[],[],[],[])/\tx u<=16385/\(∀ x∈u,x.length<=20000)/\u.length<=100000)
  (λz=>match z with | .inl (_,_,_,n,_,o,_,p,_,q,_,r,_,s)=>E6 p q r s o n/\c6 p q r s o n<=8200 | .inr z=>z.2.2.1=F0):=⟨λh=>by
 obtain⟨rfl,h1,M,h3⟩:=h
 unfold rR
 refine eJ u (zb .str) (λ(m,_)=>m) (λx=>x.length<=20000) (λ_=>True) (λ(m,_,_,_,n,_,o,_,p,_,q,_,r,_,s)=>0<=m/\E6 p q r s o n/\2*c6 p q r s o n<=tx (u.take m.toNat)) M ⟨rfl,Z,E60,V _⟩ (λ⟨m,y,z,a,n,b,o,c,p,d,q,e,r,f,s⟩ x ⟨h0,h4,h5⟩ N he _ hm => ?_) λ⟨m,y,z,a,n,b,o,c,p,d,q,e,r,f,s⟩ ⟨h0,h4,h5⟩ hm _ => ?_
 ·have h6:=SP u m h0 hm
  have h7:=Pp u m.toNat
  have h8:=he▸N
  dsimp only at hm
  clear N he M
  unfold iS
  exact z5s
 ·have h7:=Pp u m.toNat
  dsimp only at hm
  unfold iS
  exact z5s⟩
theorem zcM(P:Form->Prop)(h0:P F0)(h1:∀ {b c d e f g},E6 b c d e f g->c6 b c d e f g<=8200->P (b,c,d,e,f,g,()))(s:zx)(hv:∀ {f},P f->FW 8200 f):(nk s).wp (λr=>P r.1):=by
 unfold nk oZ
 refine zh (λ_=>zi h0) λR=>z8 (by have:=gZ R; omega) λu hu => ?_
 have R:=gZ R
 have M:tx u<=16385/\(∀ x∈u,x.length<=20000)/\u.length<=100000:=⟨Z,λx N=>by have:=hu.2.1 x N; omega,Z⟩
 clear hu
 exact z5s
instance (s:zx):Sp (nk s) True (λr=>F9 r.1):=⟨λ_=>zcM F9 (z92 E60 (by simp[c6])) z92 s And.left⟩
instance (f:Form):Sp (Zz f) (FW 8200 f) (λr=>F9 r):=⟨λh=>by unfold Zz; exact z5s⟩
open T PL
def tg(l:List Term):Prop:=∀ t∈l,rg t.2.1
def tb:List Term->Nat
 | []=>0
 | t::l=>max (rl t.2.1) (tb l)
theorem Xw{l:List Term}{t:Term}(h:t∈l):rl t.2.1<=tb l:=by
 induction l with
 | nil=>cases h
 | cons a l ih =>
  unfold tb
  rcases zR.1 h with rfl | h
  ·omega
  ·have:=ih h; omega
theorem zd5(l:List Term)(t:Term):tb (l++[t])=max (tb l) (rl t.2.1):=by
 induction l with
 | nil=>simp[tb]
 | cons a l ih=>rw[List.cons_append,tb,tb,ih]; omega
theorem zd6(l:List Term)(t:Term)(h:tg l)(k:rg t.2.1):tg (l++[t]):=yR h k
theorem He(l:List Term)(h:tg l)(i:Int)(h0:0<=i)(h1:i<l.length):rg (nth l i (zb qj)).2.1/\rl (nth l i (zb qj)).2.1<=tb l:=⟨h _ (xw h0 h1),Xw (xw h0 h1)⟩
theorem zkS(l:List Term)(h:tg l)(h1:1<=l.length):tg (jG (e:=qj) 1 (l.length:Int) l)/\tb (jG (e:=qj) 1 (l.length:Int) l)<=tb l/\(jG (e:=qj) 1 (l.length:Int) l).length+1=l.length:=by
 have e:jG (e:=qj) 1 (l.length:Int) l=l.tail:=by unfold jG; simp
 rw[e]
 cases l with
 | nil=>simp at h1
 | cons a l=>exact⟨λt ht=>h t (zM _ ht),by rw[tb]; simp; omega,qz⟩
theorem tg0:tg []/\tb []=0:=⟨nofun,rfl⟩
def cg(c:vI):Prop:=tg c.2.1/\rg c.2.2.1
def cb(c:vI):Nat:=max (tb c.2.1) (rl c.2.2.1)
theorem Xq:rg (false,[],[],())/\rl (false,[],[],())=0:=⟨⟨vF,vF⟩,by simp[rl]⟩
theorem Ek{p:Prop} (h:p:=by
 intros
 repeat' (with_reducible first
  | refine zi ?_
  | refine zh (λ_ => ?_) (λ_ => ?_)
  | refine za ?_
  | refine ze ?_
  | refine uo ?_ ?_
  | refine qw ?_ ?_
  | refine vY ?_ ?_
  | refine vk ?_ ?_
  | refine zj ?_ ?_
  | refine vQ (λ_ _ => ?_) (λ_ _ => ?_)
  | refine z8 ?_ (λ_ _ => ?_)
  | refine vA ?_ (λ_ _ => ?_)
  | refine xn ?_
  | dsimp only)
 all_goals grind [xe,jy,vS,zu,j3,yE,zd5,zd6,tg0,cg,cb,Xq,Wn,List.length_append,List.length_singleton,Di,Ho]):p:=h
set_option maxHeartbeats 4000000 in
instance (s:List Term×List Term×(Int×Bool×List Int×List Int×Unit)×(Int×Bool×List Int×List Int×Unit)×List Term×List Term):Sp (WK s) (tg s.1/\tg s.2.1/\s.2.2.2.2.2=[]/\s.1.length+s.2.1.length<=1000000/\tb s.1+tb s.2.1<=10000000)
  (λr=>r.2.1=s.2.2.2.1/\tg r.2.2.2/\tb r.2.2.2<=tb s.1+tb s.2.1+3/\r.2.2.2.length<=s.1.length+s.2.1.length):=⟨λh=>by
 unfold WK
 refine vX (λ(b,a,_,o,_,d)=>o=s.2.2.2.1/\tg b/\tg a/\tg d/\tb b<=tb s.1/\tb a<=tb s.2.1/\tb d<=tb s.1+tb s.2.1+3/\a.length+b.length+d.length<=s.1.length+s.2.1.length) (λ(b,a,_)=>a.length+b.length) (by grind [tg0]) λ⟨b,a,n,o,c,d⟩ hs => ?_
 have h1:=h.2.2.2
 clear h
 generalize s.2.2.2.1=q at *
 generalize tb s.1=zC at *
 generalize tb s.2.1=zB at *
 generalize s.1.length=X' at *
 generalize s.2.1.length=Y' at *
 have ka:=zkS a hs.2.2.1
 have kb:=zkS b hs.2.1
 have na:=He a hs.2.2.1 0 (Z)
 have nb:=He b hs.2.1 0 (Z)
 unfold WL
 dsimp only at *
 generalize jG (e:=qj) 1 (a.length:Int) a=a' at *
 generalize jG (e:=qj) 1 (b.length:Int) b=b' at *
 generalize nth a 0 (zb qj)=x at *
 generalize nth b 0 (zb qj)=y at *
 exact Ek⟩
instance (a b:vI):Sp (XC a b) (cg a/\cg b/\a.2.1.length+b.2.1.length<=1000000/\cb a+cb b<=10000000) (λr=>cg r/\cb r<=cb a+cb b+3/\r.2.1.length<=a.2.1.length+b.2.1.length):=⟨λh=>by unfold XC oZ; exact Ek⟩
instance (k:Lf.Rat) (l:List Term) (s:Int×(Int×Bool×List Int×List Int×Unit)×(Int×Bool×List Int×List Int×Unit)×List Term×List Term):Sp (Zf k l (l.length:Int) s) (s.1=0/\tg l/\rg k/\s.2.2.2.2=[]/\l.length<=1000000/\tb l+rl k<=10000000)
  (λr=>r.2.1=s.2.2.1/\tg r.2.2.2/\tb r.2.2.2<=tb l+rl k+2/\r.2.2.2.length<=l.length):=⟨λh=>by
 unfold Zf
 refine vX (λ(i,_,d,_,a)=>0<=i/\i<=l.length/\d=s.2.2.1/\tg a/\tb a<=tb l+rl k+2/\(a.length:Int)<=i) (λ(i,_)=>(l.length-i).toNat) (by grind [tg0]) λ⟨b,c,d,e,a⟩ hs => ?_
 have kb:=He l h.2.1 b hs.1
 unfold Zg
 dsimp only at *
 generalize nth l b (zb qj)=x at *
 exact Ek⟩
instance (a:vI) (k:Lf.Rat):Sp (dC a k) (cg a/\rg k/\a.2.1.length<=1000000/\cb a+rl k<=10000000) (λr=>cg r/\cb r<=cb a+rl k+2/\r.2.1.length<=a.2.1.length):=⟨λh=>by unfold dC oZ; exact Ek⟩
instance (k:Int) (a b:vI):Sp (Zh k a b) (cg a/\cg b/\a.2.1.length+b.2.1.length<=1000000/\cb a+cb b<=1000000) (λr=>cg r.1/\cb r.1<=cb a+cb b+10/\r.1.2.1.length<=a.2.1.length+b.2.1.length):=⟨λh=>by unfold Zh; exact Ek⟩
def rs(l:List Lf.Rat):Prop:=l.length<=1000000000/\∀ x∈l,rg x/\rl x<=1700
theorem D0{l:List Lf.Rat}(h:rs l)(i:Int)(h0:0<=i)(h1:i<l.length):rg (nth l i (zb zl))/\rl (nth l i (zb zl))<=1700:=h.2 _ (xw h0 h1)
instance (l:List Lf.Rat) (i:Int):Sp (lD l i) (rs l) (λr=>rg r/\rl r<=1700/\((∀ x∈l,rl x<=16)->rl r<=16)):=⟨λh=>by
 have:=D0 h i
 have M:(∀ x∈l,rl x<=16)->0<=i->i<l.length->rl (nth l i (zb zl))<=16:=λh h0 h1=>h _ (xw h0 h1)
 unfold lD
 exact Ek⟩
def vg(v:wj):Prop:=v.1.length<=20000/\v.2.1.length<=20000/\rs v.2.2.1/\∀ x∈v.2.2.1,rl x<=16
instance (s:zx) (v:wj):Sp (XE s v) (vg v) (λr=>cg r.1/\cb r.1<=16/\r.1.2.1.length<=1):=⟨λh=>by
 have h1:∀ (i:Int) (a:Lf.Rat),rg a->tg [(i,a,())]/\tb [(i,a,())]=rl a:=λi a h=>⟨λt ht=>zE.1 ht▸h,by simp[tb]⟩
 unfold vg at h
 unfold XE
 exact Ek⟩
open T PL
instance (e:Expr) (v:wj):Sp (Kj e v) (EK e/\vg v) (λr=>cg r.1/\cb r.1<=10300/\r.1.2.1.length<=256):=⟨λh=>by
 obtain⟨⟨n,hn,he⟩,hv⟩:=h
 unfold Kj
 refine wm (P:=λr=>∀ n,EO n e->cg r.1/\cb r.1<=40*n/\r.1.2.1.length<=n) ?_ λr hr=>by have:=hr n he; exact⟨this.1,Z,Z⟩
 refine se (x:=(e,v)) (λ(e,v)=>(∃ n,n<=256/\EO n e)/\vg v) (λ(e,_)=>SizeOf.sizeOf e) (λ(e,_) (r:vI×Int)=>∀ n,EO n e->cg r.1/\cb r.1<=40*n/\r.1.2.1.length<=n) ?_ ?_ ⟨⟨n,hn,he⟩,hv⟩
 ·intro g g' hg x
  unfold dD
  exact mono
 ·intro⟨e,v⟩ ⟨⟨n,hn,he⟩,hv⟩ g hg
  have z:cg (0,[],(false,[],[],()),())/\cb (0,[],(false,[],[],()),())=0:=⟨⟨nofun,Xq.1⟩,by simp[cb,tb,Xq.2]⟩
  have hq:∀ {n'},EO n' e->n'=n:=λh=>h.uniq he
  suffices (dD (λy0 y1=>g (y0,y1)) e v).wp λr=>cg r.1/\cb r.1<=40*n/\r.1.2.1.length<=n from wm this λr hr n' h=>by rw[hq h]; exact hr
  clear hq
  cases he with
  | num h1 M =>
   unfold dD
   simp only[Expr.kids,Expr.kind,Expr.num,Expr.name]
   exact uy rfl Ek
  | nam h1 =>
   unfold dD
   simp only[Expr.kids,Expr.kind,Expr.num,Expr.name]
   exact wM rfl (uy rfl Ek)
  | @neg m s i a h1 =>
   have ha:Sp (g (a,v)) True (λr=>cg r.1/\cb r.1<=40*i/\r.1.2.1.length<=i):=⟨λ_=>wm (hg (a,v) ⟨⟨i,Z,h1⟩,hv⟩ (by simp<;>omega)) λr hr=>hr i h1⟩
   unfold dD
   simp only[Expr.kids,Expr.kind,Expr.num,Expr.name]
   clear hg
   refine wM rfl (wM rfl (qw ⟨Z,qz⟩ ?_))
   rw[show nth [a] 0 (zb .expr)=a from rfl]
   refine z8 trivial λr hr=>zh (λ_=>zi ?_) λ_=>uy rfl ?_
   ·grind
   ·exact Ek
  | @bin k m s i j a b h1 M h3 h4 =>
   have ha:Sp (g (a,v)) True (λr=>cg r.1/\cb r.1<=40*i/\r.1.2.1.length<=i):=⟨λ_=>wm (hg (a,v) ⟨⟨i,Z,h3⟩,hv⟩ (by simp<;>omega)) λr hr=>hr i h3⟩
   have I:Sp (g (b,v)) True (λr=>cg r.1/\cb r.1<=40*j/\r.1.2.1.length<=j):=⟨λ_=>wm (hg (b,v) ⟨⟨j,Z,h4⟩,hv⟩ (by simp<;>omega)) λr hr=>hr j h4⟩
   unfold dD
   simp only[Expr.kids,Expr.kind,Expr.num,Expr.name]
   clear hg
   refine wM (xy) (wM (xy) (qw ⟨Z,by simp<;>omega⟩ ?_))
   rw[show nth [a,b] 0 (zb .expr)=a from rfl,show nth [a,b] 1 (zb .expr)=b from rfl]
   refine z8 trivial λr hr=>zh (λ_=>zi ?_) λ_=>wM (xy) (qw ⟨Z,qz⟩ ?_)
   ·grind
   ·exact Ek⟩
theorem c0:cg (0,[],(false,[],[],()),())/\cb (0,[],(false,[],[],()),())=0:=⟨⟨nofun,Xq.1⟩,by simp[cb,tb,Xq.2]⟩
instance (e:Expr) (v:wj):Sp (KQ e v) (EW KK e/\vg v) (λr=>cg r.1/\cb r.1<=10300/\r.1.2.1.length<=256):=⟨λh=>by have:=c0; unfold KQ; exact Ek⟩
instance (x:dW) (v:wj):Sp (Zx x v) (EW KK x.2.2.2.1/\EW KK x.2.2.2.2.1/\vg v) (λr=>cg r.1/\cb r.1<=20700/\r.1.2.1.length<=512/\(r.2=0->r.1.1=x.2.1)):=⟨λh=>by unfold Zx; exact Ek⟩
open T PL
theorem rJ{α:Type}(l:List α)(i:Int)(d:α):wi l (0+i.toNat) d=nth l i d:=by simp[wi,nth]
instance (a:List Lf.Rat):Sp (bf a) (a.length<=1000000000) (λr=>r=a):=⟨λh=>by
 unfold bf
 refine zj ?_ (zj ⟨rfl,rfl,rfl,Z⟩ (zj rfl (zi (qz))))
 rintro rfl r hr
 simpa[T.leads,vS,zu]using hr⟩
instance (a:List Int):Sp (kW a) (a.length<=1000000000) (λr=>r=a):=⟨λh=>by
 unfold kW
 refine zj ?_ (zj ⟨rfl,rfl,rfl,Z⟩ (zj rfl (zi (qz))))
 rintro rfl r hr
 simpa[T.leads,vS,zu]using hr⟩
instance (a:List zx):Sp (wQ a) (a.length<=1000000000) (λr=>r=a):=⟨λh=>by
 unfold wQ
 refine zj ?_ (zj ⟨rfl,rfl,rfl,Z⟩ (zj rfl (zi (qz))))
 rintro rfl r hr
 simpa[T.leads,vS,zu]using hr⟩
instance (a:List Lf.Rat):Sp (jK a) (a.length<=1000000000) (λr=>r=a):=⟨λh=>by
 unfold jK
 refine zj ?_ (zj ⟨rfl,rfl,rfl,Z⟩ (uo (Z) (zi rfl)))
 rintro rfl r hr
 simpa[T.leads,vS,zu]using hr⟩
instance (a:List Int):Sp (uQ a) (a.length<=1000000000) (λr=>r=a):=⟨λh=>by
 unfold uQ
 refine zj ?_ (zj ⟨rfl,rfl,rfl,Z⟩ (uo (Z) (zi rfl)))
 rintro rfl r hr
 simpa[T.leads,vS,zu]using hr⟩
instance (a:List Bool):Sp (jk a) (a.length<=1000000000) (λr=>r=a):=⟨λh=>by
 unfold jk
 refine zj ?_ (zj ⟨rfl,rfl,rfl,Z⟩ (uo (Z) (zi rfl)))
 rintro rfl r hr
 simpa[T.leads,vS,zu]using hr⟩
instance (a:List qk):Sp (jE a) (a.length<=1000000000) (λr=>r=a):=⟨λh=>by
 unfold jE
 refine zj ?_ (zj ⟨rfl,rfl,rfl,Z⟩ (uo (Z) (zi rfl)))
 rintro rfl r hr
 simpa[T.leads,vS,zu]using hr⟩
instance (a:List zx):Sp (wR a) (a.length<=1000000000) (λr=>r=a):=⟨λh=>by
 unfold wR
 refine zj ?_ (zj ⟨rfl,rfl,rfl,Z⟩ (uo (Z) (zi rfl)))
 rintro rfl r hr
 simpa[T.leads,vS,zu]using hr⟩
instance (a:List Rat) (c:Rat->T Bool) (p:Rat->Prop) (P:Rat->Bool->Prop) [∀ x,Sp (c x) (p x) (P x)]:Sp (kM a c) (a.length<=1000000000000/\∀ x∈a,p x) (Ho a P (zb zl)):=⟨ixq⟩
instance (a:List Rat) (c:Rat->T Bool) (p:Rat->Prop) (P:Rat->Bool->Prop) [∀ x,Sp (c x) (p x) (P x)]:Sp (vw a c) (a.length<=1000000000000/\∀ x∈a,p x) (Di a P):=⟨λh=>cnq (Sp.sp h)⟩
instance (a:List Term) (c:Term->T Bool) (p:Term->Prop) (P:Term->Bool->Prop) [∀ x,Sp (c x) (p x) (P x)]:Sp (kg a c) (a.length<=1000000000000/\∀ x∈a,p x) (Ho a P (zb qj)):=⟨ixq⟩
instance (a:List Term) (c:Term->T Bool) (p:Term->Prop) (P:Term->Bool->Prop) [∀ x,Sp (c x) (p x) (P x)]:Sp (vW a c) (a.length<=1000000000000/\∀ x∈a,p x) (Di a P):=⟨λh=>cnq (Sp.sp h)⟩
instance (a:List vI) (c:vI->T Bool) (p:vI->Prop) (P:vI->Bool->Prop) [∀ x,Sp (c x) (p x) (P x)]:Sp (bA a c) (a.length<=1000000000000/\∀ x∈a,p x) (Ho a P (zb zq)):=⟨ixq⟩
instance (a:List vI) (c:vI->T Bool) (p:vI->Prop) (P:vI->Bool->Prop) [∀ x,Sp (c x) (p x) (P x)]:Sp (yO a c) (a.length<=1000000000000/\∀ x∈a,p x) (Di a P):=⟨λh=>cnq (Sp.sp h)⟩
instance (a:List Field) (c:Field->T Bool) (p:Field->Prop) (P:Field->Bool->Prop) [∀ x,Sp (c x) (p x) (P x)]:Sp (gi a c) (a.length<=1000000000000/\∀ x∈a,p x) (Ho a P (zb qu)):=⟨ixq⟩
instance (a:List qk) (c:qk->T Bool) (p:qk->Prop) (P:qk->Bool->Prop) [∀ x,Sp (c x) (p x) (P x)]:Sp (yh a c) (a.length<=1000000000000/\∀ x∈a,p x) (Ho a P (zb zm)):=⟨ixq⟩
instance (a:List qk) (c:qk->T Bool) (p:qk->Prop) (P:qk->Bool->Prop) [∀ x,Sp (c x) (p x) (P x)]:Sp (uv a c) (a.length<=1000000000000/\∀ x∈a,p x) (Di a P):=⟨λh=>cnq (Sp.sp h)⟩
instance (l:List Field) (s:Int×List zx):Sp (pY l (l.length:Int) s) (s.1=0/\l.length<=8200/\(∀ x∈l,x.1.length<=KK)/\ss s.2/\s.2.length<=100000) (λr=>ss r/\r.length<=s.2.length+l.length):=⟨λh=>by
 unfold pY pZ
 exact pU l (zb qu) (λ(i,_)=>i) _ (λ_=>True) (λ(i,c)=>0<=i/\i<=l.length/\ss c/\(c.length:Int)<=s.2.length+i) h.2.2.1⟩
def ck(c:vI):Prop:=cg c/\cb c<=20700/\c.2.1.length<=512
def VJ(l:List vI):Prop:=l.length<=1000/\∀ c∈l,ck c
def io(n:Int)(l:List Int):Prop:=∀ i∈l,0<=i/\i<n
theorem C7(l:List vI)(c:vI)(h:VJ l)(k:ck c)(R:l.length<=999):VJ (l++[c]):=⟨by simp; omega,yR h.2 k⟩
theorem Cy(n:Int)(l:List Int)(i:Int)(h:io n l)(h0:0<=i)(h1:i<n):io n (l++[i]):=yR h ⟨h0,h1⟩
theorem zbO(n:Int)(l:List Int)(h:io n l)(i:Int)(h0:0<=i)(h1:i<l.length):0<=nth l i (zb (.int .i64))/\nth l i (zb (.int .i64))<n:=h _ (xw h0 h1)
theorem Wm:VJ []/\∀ n,io n []:=⟨⟨qz,nofun⟩,λ_=>nofun⟩
theorem goe{p:Prop} (h:p:=by
 intros
 repeat' (with_reducible first
  | refine zi ?_
  | refine zh (λ_ => ?_) (λ_ => ?_)
  | refine za ?_
  | refine ze ?_
  | refine uo ?_ ?_
  | refine qw ?_ ?_
  | refine vY ?_ ?_
  | refine vk ?_ ?_
  | refine zj ?_ ?_
  | refine vQ (λ_ _ => ?_) (λ_ _ => ?_)
  | refine z8 ?_ (λ_ _ => ?_)
  | refine vA ?_ (λ_ _ => ?_)
  | refine xn ?_
  | dsimp only)
 all_goals grind [xe,uN,jy,vS,zu,j3,yE,List.length_append,List.length_singleton,C7,Cy,Wm,ck,Wn,Di,Ho]):p:=h
instance (x:Lf.Rat):Sp (bP x) (rg x/\rl x<=1700) (λr=>r=false->rl x<=16):=⟨λh=>by have:nm x↔norm x=x:=Iff.rfl; unfold bP; exact goe⟩
instance (x:Switch) (s:zx):Sp (dI x s) True (λ_=>True):=⟨λ_=>by unfold dI; exact goe⟩
instance (f:Form) (l:List Bool) (s:zx):Sp (XL f l s) (f.1.length<=8200/\l.length=f.1.length) (λ_=>True):=⟨λh=>by unfold XL; exact goe⟩
instance (x:Term):Sp (gQ x) (rg x.2.1/\rl x.2.1<=50000) (λ_=>True):=⟨λh=>by unfold gQ; exact goe⟩
instance (c:vI):Sp (Zw c) (ck c) (λ_=>True):=⟨λh=>by
 have h1:∀ t∈c.2.1,rg t.2.1/\rl t.2.1<=50000:=λt ht=>⟨h.1.1 t ht,by have:=Xw ht; have:=h.2.1; unfold cb at this; omega⟩
 have M:=h.1.2
 have h3:rl c.2.2.1<=50000:=by have:=h.2.1; unfold cb at this; omega
 have h4:=h.2.2
 clear h
 unfold Zw
 exact goe⟩
instance (f:Form):Sp (sC f) (FV f) (λr=>ss r/\r.length<=8200):=⟨λh=>by
 obtain⟨h1,_,_,h4⟩:=FV.fe h
 unfold sC oZ
 exact El⟩
instance (l:List Param) (s:Int×(List Lf.Rat×Unit)×(List zx×List Lf.Rat×Unit)×List zx×List zx×List zx):Sp (QT l (l.length:Int) s) (s.1=0/\l.length<=8200/\s.2.2.2.2.2=[]) (λr=>r.2.1=s.2.2.1/\r.2.2.2.2.length<=8200):=⟨λh=>by
 unfold QT QU
 refine vX (λ(i,_,d,_,_,c)=>0<=i/\i<=l.length/\d=s.2.2.1/\(c.length:Int)<=i) (λ(i,_)=>(l.length-i).toNat) (xy) ?_
 exact goe⟩
instance (f:Form) (l:List Lf.Rat):Sp (pX f l) (FV f/\rs l/\∀ x∈l,rl x<=16) (λr=>vg r):=⟨λh=>by
 obtain⟨h1,_⟩:=FV.fe h.1
 have M:l.length<=1000000000:=h.2.1.1
 unfold pX vg
 exact goe⟩
open T PL
def EJ(f:Form)(v:wj)(z:Int)(d:wj)(a:List vI)(b:List Int):Prop:=0<=z/\z<=64/\d=v/\VJ a/\io f.2.2.2.2.1.length b/\a.length=b.length/\(a.length:Int)<=z
theorem goE{p:Prop} (h:p:=by
 intros
 repeat' (with_reducible first
  | refine zi ?_
  | refine zh (λ_ => ?_) (λ_ => ?_)
  | refine za ?_
  | refine ze ?_
  | refine uo ?_ ?_
  | refine qw ?_ ?_
  | refine vY ?_ ?_
  | refine vk ?_ ?_
  | refine zj ?_ ?_
  | refine vQ (λ_ _ => ?_) (λ_ _ => ?_)
  | refine z8 ?_ (λ_ _ => ?_)
  | refine vA ?_ (λ_ _ => ?_)
  | refine xn ?_
  | dsimp only)
 all_goals grind [xe,uN,jy,vS,zu,j3,yE,List.length_append,List.length_singleton,C7,Cy,Wm,ck,Wn,Di,Ho,EJ]):p:=h
instance (o:List Bool) (f:Form) (s:Int×Unit×Unit×wj×List vI×List Int):Sp (pV o f f.2.2.2.2.1 (f.2.2.2.2.1.length:Int) s) (s.1=0/\FV f/\f.2.2.2.2.1.length<=64/\o.length=f.1.length/\vg s.2.2.2.1/\s.2.2.2.2=([],[]))
  (λr=>match r with | .inl z=>z.2.2.1=s.2.2.2.1/\VJ z.2.2.2.1/\io f.2.2.2.2.1.length z.2.2.2.2/\z.2.2.2.1.length=z.2.2.2.2.length/\z.2.2.2.1.length<=64 | .inr z=>z.2.1≠0):=⟨λh=>by
 have h1:=h.2.1.1.1.1
 have M:∀ x∈f.2.2.2.2.1,EW KK x.2.2.2.1/\EW KK x.2.2.2.2.1:=λx N=>(h.2.1.1.2.2.2.2.1.2 x N).2.2
 obtain⟨h3,_,h4,h5,h6,h7⟩:=h
 unfold pV
 refine eJ f.2.2.2.2.1 (zb xl) (λ(i,_)=>i) _ (λ_=>True) (λ(i,_,_,d,a,b)=>EJ f s.2.2.2.1 i d a b) M ⟨h3,by grind [EJ,Wm]⟩ (λ⟨c,l,m,d,a,b⟩ x hj N he h0 R => ?_) λ⟨c,l,m,d,a,b⟩ hj he _ => ?_
 ·have hr:=he▸N
  dsimp only at *
  generalize s.2.2.2.1=v at *
  clear M he N h7 h3
  unfold fU
  exact goE
 ·clear M
  unfold fU
  exact goE⟩
instance (f:Form) (u v:Unit) (e:wj) (a:List vI) (b:List Int):Sp (pW f (a.length:Int) (0,u,v,e,a,b)) (VJ a/\io f.2.2.2.2.1.length b/\a.length=b.length/\a.length<=64)
  (λr=>match r with | .inl z=>z.2.2.2=(a,b) | .inr z=>z.2.1≠0):=⟨λh=>by
 obtain⟨h1,M,h3,h4⟩:=h
 unfold pW
 refine eJ a (zb zq) (λ(i,_)=>i) _ (λ_=>True) (λ(i,_,_,_,a',b')=>0<=i/\i<=64/\a'=a/\b'=b) h1.2 ⟨rfl,Z,Z,rfl,rfl⟩ (λ⟨c,l,m,d,a',b'⟩ x ⟨k0,k1,k2,k3⟩ N he h0 R => ?_) λ⟨c,l,m,d,a',b'⟩ ⟨k0,k1,k2,k3⟩ he _ => ?_
 ·subst k2 k3
  have hr:=he▸N
  have hi:=zbO _ _ M c h0 (by dsimp only at *; omega)
  dsimp only at *
  unfold fV
  simp only[rJ]
  clear h1 M he N
  exact goE
 ·subst k2 k3
  clear h1 M
  unfold fV
  simp only[rJ]
  exact goE⟩
instance (f:Form) (p:List Lf.Rat) (o:List Bool):Sp (mQ f p o) (FW 8200 f/\rs p/\o.length<=1000000000)
  (λr=>VJ r.2.2.2.1/\io f.2.2.2.2.1.length r.2.2.2.2/\r.2.2.2.1.length=r.2.2.2.2.length/\r.2.2.2.1.length<=64/\(r.2.2.1=0->FV f/\f.2.2.2.1.length<=64/\f.2.2.2.2.1.length<=64/\p.length=f.2.1.length/\o.length=f.1.length)):=⟨λh=>by
 have h1:p.length<=1000000000/\∀ x∈p,rg x/\rl x<=1700:=h.2.1
 have M:=Wm
 unfold mQ oZ
 exact goE⟩
end Go.AM.Lf
namespace Go.AM.PL
namespace G
def jn(f:Int->Int)(a b:Int):Int->Int:=λu=>if f u=max (f a) (f b)then min (f a) (f b)else f u
def Kf(f:Int->Int)(a:Int):List Int->(Int->Int)×Bool
 | []=>(f,true)
 | b::r=>((Kf (jn f a b) a r).1,decide (f a≠f b)&&(Kf (jn f a b) a r).2)
def MS(f:Int->Int):List Int->(Int->Int)×Bool
 | []=>(f,true)
 | a::r=>Kf f a r
def VY(f:Int->Int)(i:Int):List (List Int)->Int
 | [] => -1
 | c::r=>if(MS f c).2=true then VY (MS f c).1 (i+1) r else i
theorem zgz(f:Int->Int)(a b:Int):jn f a b a=jn f a b b:=by unfold jn; grind
theorem MU{f:Int->Int}{u w:Int}(a b:Int)(h:f u=f w):jn f a b u=jn f a b w:=by unfold jn; rw[h]
theorem Ys:∀ (r:List Int) (f:Int->Int) (a u w:Int),f u=f w->(Kf f a r).1 u=(Kf f a r).1 w
 | [],_,_,_,_,h=>h
 | b::r,f,a,u,w,h=>Ys r (jn f a b) a u w (MU a b h)
theorem z18(c:List Int)(f:Int->Int){u w:Int}(h:f u=f w):(MS f c).1 u=(MS f c).1 w:=by
 cases c with
 | nil=>exact h
 | cons a r=>exact Ys r f a u w h
theorem MT:∀ (r:List Int) (f:Int->Int) (a b:Int),b∈r->(Kf f a r).1 b=(Kf f a r).1 a
 | c::r,f,a,b,h=>by
  rcases zR.1 h with rfl | h
  ·exact Ys r _ a b a (zgz f a b).symm
  ·exact MT r (jn f a c) a b h
theorem z6b(c:List Int)(f:Int->Int){u w:Int}(hu:u∈c)(hw:w∈c):(MS f c).1 u=(MS f c).1 w:=by
 cases c with
 | nil=>cases hu
 | cons a r =>
  have key:∀ b∈a::r,(Kf f a r).1 b=(Kf f a r).1 a:=λb h=>by
   rcases zR.1 h with rfl | h
   ·rfl
   ·exact MT r f a b h
  exact(key u hu).trans (key w hw).symm
theorem Ja:∀ (r:List Int) (f:Int->Int) (a:Int),(Kf f a r).2=true->(∀ b∈r,f a≠f b)/\r.Pairwise λb c=>f b≠f c
 | [],_,_,_=>⟨λb h=>(by cases h),.nil⟩
 | b::r,f,a,h=>by
  unfold Kf at h
  simp only[zU,decide_eq_true_eq]at h
  obtain⟨h1,M⟩:=Ja r (jn f a b) a h.2
  have I:∀ c∈r,f a≠f c/\f b≠f c:=λc hc=>by
   have:=h1 c hc
   unfold jn at this
   grind
  refine⟨λc hc => ?_,.cons (λc hc=>(I c hc).2) (M.imp_of_mem λ{c d} hc J g e=>g (MU a b e))⟩
  rcases zR.1 hc with rfl | hc
  ·exact h.1
  ·exact(I c hc).1
theorem RV{c:List Int}{f:Int->Int}(h:(MS f c).2=true):c.Pairwise λb d=>f b≠f d:=by
 cases c with
 | nil=>exact .nil
 | cons a r=>exact .cons (Ja r f a h).1 (Ja r f a h).2
def Tc(rk:Int->Nat)(cs:List (List Int))(outs:List Int):Prop:=∀ i (h:i<cs.length) (h':i<outs.length),outs[i]∈cs[i]->∀ t∈cs[i],t≠outs[i]->rk t<rk outs[i]
theorem zkI:∀ (cs:List (List Int)) (outs:List Int) (f:Int->Int) (i:Int) (SJ:Int->Nat) (hI:Nat) (Wm:List (List Int)) (Z1:List Int),0<=i->VY f i cs = -1->Wm.length=Z1.length->(∀ v,SJ v<=hI) ->
  (∀ c∈Wm,∀ u∈c,∀ w∈c,f u=f w)->Tc SJ Wm Z1->∃ rk:Int->Nat,∃ B',(∀ v,rk v<=B')/\Tc rk (Wm++cs) (Z1++outs)
 | [],outs,f,i,SJ,hI,Wm,Z1,_,_,R,hB,_,hA=>⟨SJ,hI,hB,λj h h'=>by
   simp only[List.append_nil]at h ⊢
   have e:(Z1++outs)[j]'h'=Z1[j]'(R▸h):=zN _
   rw[e]
   exact hA j h (R▸h)⟩
 | c::cs,[],f,i,SJ,hI,Wm,Z1,_,_,R,hB,_,hA=>⟨SJ,hI,hB,λj h h'=>by
   simp only[List.append_nil]at h' ⊢
   have e:(Wm++c::cs)[j]'h=Wm[j]'(R▸h'):=zN _
   rw[e]
   exact hA j (R▸h') h'⟩
 | c::cs,o::outs,f,i,SJ,hI,Wm,Z1,hi,hf,R,hB,hc,hA=>by
  unfold VY at hf
  split at hf
  ·rename_i hk
   have hap:=RV hk
   let rk:Int->Nat:=λu=>SJ u+if f u=f o then hI+1 else 0
   have hrk:Tc rk (Wm++[c]) (Z1++[o]):=λj h h'=>by
    by_cases hj:j<Wm.length
    ·have e1:(Wm++[c])[j]'h=Wm[j]:=zN hj
     have e2:(Z1++[o])[j]'h'=Z1[j]'(R▸hj):=zN (R▸hj)
     rw[e1,e2]
     intro hm t ht jX
     have h1:=hA j hj (R▸hj) hm t ht jX
     have M:=hc _ (zO hj) t ht _ hm
     show SJ t+(if f t=f o then hI+1 else 0)<SJ _+(if f _=f o then hI+1 else 0)
     rw[M]; omega
    ·have MK:j=Wm.length:=by simp at h; omega
     subst MK
     have e1:(Wm++[c])[Wm.length]'h=c:=qz
     have e2:(Z1++[o])[Wm.length]'h'=o:=by simp[R]
     rw[e1,e2]
     intro hm t ht jX
     have T7:f t≠f o:=by
      obtain⟨p,hp,rfl⟩:=zX ht
      obtain⟨q,hq,rfl⟩:=zX hm
      rcases Nat.lt_trichotomy p q with h3 | h3 | h3
      ·exact zZ.1 hap p q hp hq h3
      ·subst h3; exact absurd rfl jX
      ·exact λe=>zZ.1 hap q p hq hp h3 e.symm
     show SJ t+(if f t=f o then hI+1 else 0)<SJ o+(if f o=f o then hI+1 else 0)
     rw[if_neg T7,if_pos rfl]
     have:=hB t
     omega
   have:=zkI cs outs (MS f c).1 (i+1) rk (hI+(hI+1)) (Wm++[c]) (Z1++[o]) (Z) hf (by simp[R]) (λv=>by
     show SJ v+(if f v=f o then hI+1 else 0)<=_
     have:=hB v
     split<;>omega) (λd J u hu w hw=>by
     rcases zG.1 J with J | J
     ·exact z18 c f (hc d J u hu w hw)
     ·rw[zE.1 J]at hu hw; exact z6b c f hu hw) hrk
   simpa using this
  ·omega
end G
end Go.AM.PL
namespace Go.AM.PL
namespace G
structure RL(r:List Int)(f:Int->Int):Prop where
 a:∀ (v:Nat) (h:v<r.length),0<=r[v]/\r[v]<=v
 b:∀ (v:Nat) (h:v<r.length),f r[v]=f v
 c:∀ (v:Nat) (h:v<r.length),r[v]=v->f v=v
theorem RL.at{r:List Int}{f:Int->Int}(H:RL r f){v:Nat}(h:v<r.length):∃ w:Nat,r[v]=(w:Int)/\w<=v/\w<r.length/\f w=f v:=by
 have h1:=H.a v h
 have M:=H.b v h
 refine⟨r[v].toNat,Z,Z,Z,?_⟩
 rw[Int.toNat_of_nonneg h1.1]; exact M
theorem RL.zfu{r:List Int}{f:Int->Int}(H:RL r f){v w:Nat}(h:v<r.length)(hw:r[v]=(w:Int))(hwl:w<r.length):RL (r.set v r[w]) f:=by
 have h1:=H.a v h
 have M:=H.a w hwl
 have h3:=H.b v h
 have h4:=H.b w hwl
 refine⟨λu hu => ?_,λu hu => ?_,λu hu => ?_⟩<;>simp only[List.length_set]at hu<;>rw[qA]
 ·split
  ·omega
  ·exact H.a u hu
 ·split
  ·rename_i e; subst e; rw[h4,<- hw,h3]
  ·exact H.b u hu
 ·split
  ·rename_i e
   subst e
   intro e
   exact H.c v h (Z)
  ·exact H.c u hu
theorem RL.join{r:List Int}{f:Int->Int}(H:RL r f){v w a b:Nat}(ha:f v=(a:Int))(I:f w=(b:Int))(Ka:a<r.length)(hbl:b<r.length)(fa:f a=a)(fb:f b=b) :
  RL (r.set (max a b) ((min a b:Nat):Int)) (jn f v w):=by
 have key:∀ u:Int,jn f v w u=if f u=((max a b:Nat):Int)then((min a b:Nat):Int)else f u:=λu=>by unfold jn; rw[ha,I]; split<;>split<;>omega
 have fm:f ((min a b:Nat):Int)=((min a b:Nat):Int):=by rcases Nat.le_total a b with h | h<;>simp[Nat.min_eq_left,Nat.min_eq_right,h,fa,fb]
 have fM:f ((max a b:Nat):Int)=((max a b:Nat):Int):=by rcases Nat.le_total a b with h | h<;>simp[Nat.max_eq_left,Nat.max_eq_right,h,fa,fb]
 refine⟨λu hu => ?_,λu hu => ?_,λu hu => ?_⟩<;>simp only[List.length_set]at hu<;>rw[qA]
 ·split
  ·omega
  ·exact H.a u hu
 ·rw[key,key]
  split
  ·rename_i e; subst e; rw[fm,fM,if_pos rfl]; split<;>rfl
  ·rw[H.b u hu]
 ·rw[key]
  split
  ·rename_i e; subst e; intro e; rw[fM,if_pos rfl]; exact e
  ·rename_i e
   intro h
   rw[H.c u hu h,if_neg (Z)]
end G
end Go.AM.PL
namespace Go.AM.Lf
open T PL
def VC(n:Int)(c:vI):Prop:=0<=c.1/\c.1<=4/\∀ t∈c.2.1,0<=t.1/\t.1<n
def vs(c:vI):List Int:=c.2.1.map (·.1)
theorem DT(c:vI):rl c.2.2.1<=cb c:=by unfold cb; omega
theorem gog{p:Prop} (h:p:=by
 intros
 repeat' (with_reducible first
  | refine zi ?_
  | refine zh (λ_ => ?_) (λ_ => ?_)
  | refine za ?_
  | refine ze ?_
  | refine uo ?_ ?_
  | refine qw ?_ ?_
  | refine vY ?_ ?_
  | refine vk ?_ ?_
  | refine zj ?_ ?_
  | refine vQ (λ_ _ => ?_) (λ_ _ => ?_)
  | refine z8 ?_ (λ_ _ => ?_)
  | refine vA ?_ (λ_ _ => ?_)
  | refine xn ?_
  | dsimp only)
 all_goals grind [xe,uN,ez,jy,vS,zu,j3,yE,List.length_set,Wn,l8,V1]):p:=h
instance (n:Int) (c:vI) (s:Int×Int):Sp (tD n c.2.1 (c.2.1.length:Int) s) (s=(0,0)/\n<=1000000/\cg c/\cb c<=1000000/\c.2.1.length<=1000000) (λr=>match r with | .inl _=>∀ t∈c.2.1,0<=t.1/\t.1<n | .inr b=>b=false):=⟨λh=>by
 unfold tD
 refine eJ c.2.1 (zb qj) (λ(_,i)=>i) (λx=>rg x.2.1/\rl x.2.1<=1000000) (λx=>0<=x.1/\x.1<n) (λ(g,i)=>0<=g/\0<=i) (λx N=>⟨h.2.2.1.1 x N,by have:=Xw N; have:=h.2.2.2.1; unfold cb at this; omega⟩) (xy) (λ⟨g,i⟩ x hj N he h0 R => ?_) λ⟨g,i⟩ hj he hp => ?_
 ·dsimp only at *
  unfold oX
  dsimp only
  rw[he]
  clear he
  exact gog
 ·dsimp only at *
  unfold oX
  clear h
  exact gog⟩
instance (c:vI) (n:Int):Sp (cT c n) (n<=1000000/\cg c/\cb c<=1000000/\c.2.1.length<=1000000) (λr=>r=true->VC n c):=⟨λh=>by
 have h1:rg c.2.2.1/\rl c.2.2.1<=1000000:=⟨h.2.1.2,by have:=DT c; omega⟩
 have M:0<=c.1->c.1<=4->(∀ t∈c.2.1,0<=t.1/\t.1<n)->VC n c:=λa b d=>⟨a,b,d⟩
 unfold cT
 exact gog⟩
theorem Ph{f:Int->Int}(n:Nat)(v:Int)(r:List Int)(h:G.RL r f/\0<=v/\v<n/\r.length=n):(yH (0,n) v r).wp λ(z:Int×List Int)=>G.RL z.2 f/\z.2.length=n/\z.1=f v/\0<=z.1/\z.1<n/\f z.1=z.1:=by
 unfold yH lh
 refine za (za (xn ?_))
 refine wm (P:=λ(z:Int×List Int)=>G.RL z.2 f/\z.2.length=n/\z.1=f v/\0<=z.1/\z.1<n/\f z.1=z.1) ?_ λz hz=>za (zi hz)
 refine vX (λ(b,c,a)=>b=(0,n)/\G.RL a f/\0<=c/\c<n/\a.length=n/\f c=f v) (λ(_,c,_)=>c.toNat) ⟨rfl,h.1,h.2.1,h.2.2.1,h.2.2.2,rfl⟩ λ⟨b,c,a⟩ ⟨h1,M,h3,h4,h5,h6⟩ => ?_
 subst h1
 obtain⟨k,rfl⟩:=X h3
 have hk:k<a.length:=Z
 obtain⟨w,hw,hwk,hwl,hfw⟩:=M.at hk
 have e1:wi a (0+qM (k:Int)) (zb (.int .i64))=a[k]:=by simp[wi,hk]
 have e2:wi a (0+qM (w:Int)) (zb (.int .i64))=a[w]:=by simp[wi,hwl]
 unfold cz
 dsimp only
 rw[e1,hw,e2]
 refine zj ⟨Z,Z⟩ (zj ⟨rfl,by simp; omega⟩ (zh (λhn => ?_) λhn => ?_))
 ·have jX:w≠k:=by rintro rfl; simp at hn
  obtain⟨x,N,hxw,FU,hfx⟩:=M.at hwl
  have e3:wi (a.set (0+qM (k:Int)) a[w]) (0+qM (k:Int)) (zb (.int .i64))=a[w]:=by simp[wi,hk]
  rw[e3]
  have hs:(0+qM (k:Int))=k:=Z
  rw[hs]
  refine zj ⟨Z,Z⟩ (zj ⟨rfl,Z⟩ (zj ⟨Z,by simp; omega⟩ (zj ⟨rfl,by simp; omega⟩ (zj ⟨Z,Z⟩ (zj ⟨rfl,Z⟩ (zj ⟨Z,Z⟩ (zj ⟨qz,by simp; omega⟩ (za (zj (qz) (zi ?_))))))))))
  dsimp only
  refine⟨⟨rfl,M.zfu hk hw hwl,Z,Z,by simp; omega,?_⟩,Z⟩
  rw[N,hfx,hfw]; exact h6
 ·have:w=k:=by simp at hn; omega
  subst this
  have:=M.c w hk hw
  exact za (zi ⟨M,h5,by rw[<- h6,this],Z,Z,this⟩)
theorem z19{f:Int->Int}(n:Nat)(v w:Int)(r:List Int)(h:G.RL r f/\0<=v/\v<n/\0<=w/\w<n/\r.length=n):(b8 (0,n) v w r).wp λz=>G.RL z.2 (G.jn f v w)/\z.2.length=n/\z.1=decide (f v≠f w):=by
 obtain⟨h1,M,h3,h4,h5,h6⟩:=h
 obtain⟨v,rfl⟩:=X M
 obtain⟨w,rfl⟩:=X h4
 have h:=qL h1 (qL M (qL h3 (qL h4 (qL h5 h6))))
 unfold b8
 refine za (za (xn (wm (Ph n (v:Int) r ⟨h.1,h.2.1,h.2.2.1,h.2.2.2.2.2⟩) λz ⟨a1,a2,a3,a4,a5,a6⟩=>zj (Z) (za (xn (wm (Ph n (w:Int) z.2 ⟨a1,h.2.2.2.1,h.2.2.2.2.1,a2⟩) λy ⟨b1,b2,b3,b4,b5,b6⟩ => ?_))))))
 have hm:l8 z.1 y.1=max z.1 y.1:=by unfold l8; split<;>omega
 have hi:V1 z.1 y.1=min z.1 y.1:=by unfold V1; split<;>omega
 dsimp only
 rw[hm,hi]
 obtain⟨a,ha⟩:=X a4
 obtain⟨b,I⟩:=X b4
 have hj:=b1.join (v:=v) (w:=w) (a:=a) (b:=b) (Z) (Z) (Z) (Z) (by rw[<- ha]; exact a6) (by rw[<- I]; exact b6)
 have e1:0+(max z.1 y.1).toNat=max a b:=Z
 have e2:min z.1 y.1=((min a b:Nat):Int):=Z
 rw[e1,e2]
 refine zj ⟨Z,Z⟩ (zj ⟨Z,Z⟩ (zj (qz) (zi ⟨hj,by simp; omega,?_⟩)))
 rw[a3,b3]
 by_cases e:f v=f w<;>simp[e]
theorem z06:∀ (a:List (List Int)) (b:List Int) (f:Int->Int) (i:Int),0<=i->G.VY f i a = -1->G.VY f i (a++[b])=if(G.MS (a.foldl (λf c=>(G.MS f c).1) f) b).2=true then -1 else i+a.length:=by
 intro a
 induction a with
 | nil=>intro b f i h0 h; simp[G.VY]
 | cons c a ih =>
  intro b f i h0 h
  unfold G.VY at h
  rw[List.cons_append]
  unfold G.VY
  split at h
  ·rename_i e
   rw[if_pos e,ih b _ (i+1) (Z) h,List.foldl_cons]
   simp only[List.length_cons]
   split
   ·rfl
   ·omega
  ·omega
open T PL
theorem z6a(n:Nat)(hn:n<=64)(d:List vI)(m:Int):(nM d m (n:Int) (0,qK n 0)).wp λr=>G.RL r id/\r.length=n:=by
 unfold nM
 refine vX (σ:=Int×List Int) (λ(b,a)=>0<=b/\b<=n/\a.length=n/\∀ (j:Nat) (h:j<a.length),(j:Int)<b->a[j]=j) (λ(b,_)=>(n-b).toNat) ⟨Z,Z,qz,λj h h'=>Z⟩ λ⟨b,a⟩ ⟨h0,h1,M,h3⟩ => ?_
 unfold nO
 refine zh (λh => ?_) λh => ?_
 ·have h:=uE h
  refine qw ⟨Z,Z⟩ (zj ⟨rfl,Z⟩ (uo (qz) (zi ?_)))
  rw[qv (Z) (Z)]
  refine⟨⟨Z,Z,by simp; omega,λj hj I => ?_⟩,by dsimp only; omega⟩
  rw[qA]
  split
  ·omega
  ·exact h3 j (by simpa using hj) (Z)
 ·have h:=gZ h
  exact ze (za (zi ⟨⟨λv hv=>by rw[h3 v hv (Z)]; omega,λv hv=>by rw[h3 v hv (Z)],λv hv _=>rfl⟩,M⟩))
theorem z3l(c:vI)(i:Int)(h0:0<=i)(h1:i<c.2.1.length):(vs c)[i.toNat]? = some (nth c.2.1 i (zb qj)).1:=by
 unfold vs nth
 rw[List.getElem?_map,zA,zJ (Z)]
 rfl
theorem zaU{f0:Int->Int}(n:Nat)(c:vI)(hc:VC n c)(R:c.2.1.length<=1000)(i first:Int)(k m q)(x5)(row:List Int)(hr:G.RL row f0)(hn:row.length=n) :
  (nN k i x5 m q (first,1,row,c)).wp λ(z:Int×List Int×vI)=>G.RL z.2.1 (G.MS f0 (vs c)).1/\z.2.1.length=n/\z.1=if first<0/\(G.MS f0 (vs c)).2=false then i else first:=by
 unfold nN
 obtain⟨t,r,hv⟩ | hv:(∃ t r,vs c=t::r)\/vs c=[]:=by cases vs c with | nil=>exact .inr rfl | cons t r=>exact .inl ⟨t,r,rfl⟩
 ·rw[hv]
  have hlen:c.2.1.length=r.length+1:=by have:=congrArg qI hv; unfold vs at this; simpa using this
  have ht:(nth c.2.1 0 (zb qj)).1=t:=by have:=z3l c 0 (Z) (Z); rw[hv]at this; simpa using this.symm
  show(T.loop _ _).wp λ(z:Int×List Int×vI)=>G.RL z.2.1 (G.Kf f0 t r).1/\z.2.1.length=n/\z.1=if first<0/\(G.Kf f0 t r).2=false then i else first
  refine vX (σ:=Int×Int×List Int×vI) (λ(f,e,a,b)=>b=c/\1<=e/\e<=c.2.1.length/\a.length=n/\∃ g ok,G.RL a g/\(G.Kf f0 t r).1=(G.Kf g t (r.drop (e-1).toNat)).1/\(G.Kf f0 t r).2=(ok&&(G.Kf g t (r.drop (e-1).toNat)).2)/\f=if first<0/\ok=false then i else first)
   (λ(_,e,_,_)=>(c.2.1.length-e).toNat) ⟨rfl,Z,Z,hn,f0,true,hr,qz,qz,qz⟩ λ⟨f,e,a,b⟩ ⟨h1,M,h3,h4,g,ok,h5,h6,h7,h8⟩ => ?_
  subst h1
  unfold eD
  refine zh (λh => ?_) λh => ?_
  ·have h:=uE h
   have e0:=(hc.2.2 _ (xw (d:=zb qj) (i:=0) (Z) (Z)))
   have e1:=(hc.2.2 _ (xw (d:=zb qj) (i:=e) (Z) h))
   have J:r.drop (e-1).toNat=(nth b.2.1 e (zb qj)).1::r.drop (e+1-1).toNat:=by
    have:=z3l b e (Z) h
    rw[hv,show e.toNat=(e-1).toNat+1 by omega,List.getElem?_cons_succ]at this
    obtain⟨wL,he⟩:=List.getElem?_eq_some_iff.1 this
    rw[zY wL,he,show(e+1-1).toNat=(e-1).toNat+1 by omega]
   rw[J]at h6 h7
   rw[ht]at e0
   dsimp only
   rw[ht]
   generalize (nth b.2.1 e (zb qj)).1=w at *
   rw[h4]
   refine xn (qw ⟨Z,Z⟩ (qw ⟨Z,h⟩ (za (za (xn (wm (z19 n t w a ⟨h5,e0.1,e0.2,e1.1,e1.2,h4⟩) λz hz => ?_))))))
   obtain⟨z1,z2⟩:=z
   obtain⟨k1,k2,k3⟩:=hz
   dsimp only at k1 k2 k3 ⊢
   have hw:qo (e+1)=e+1:=qv (Z) (Z)
   have N:(G.Kf g t (w::r.drop (e+1-1).toNat))=((G.Kf (G.jn g t w) t (r.drop (e+1-1).toNat)).1,decide (g t≠g w)&&(G.Kf (G.jn g t w) t (r.drop (e+1-1).toNat)).2):=rfl
   rw[N]at h6 h7
   have fin:∀ f',(f'=if first<0/\(ok&&decide (g t≠g w))=false then i else first)->f'=f'->b=b/\1<=e+1/\e+1<=b.2.1.length/\z2.length=n/\∃ g ok,G.RL z2 g/\(G.Kf f0 t r).1=(G.Kf g t (r.drop (e+1-1).toNat)).1/\(G.Kf f0 t r).2=(ok&&(G.Kf g t (r.drop (e+1-1).toNat)).2)/\f'=if first<0/\ok=false then i else first :=
    λf' hf _=>⟨rfl,Z,Z,k2,_,_,k1,h6,by rw[h7,Bool.and_assoc],hf⟩
   refine zh (λhz => ?_) λhz => ?_
   ·refine zj ⟨k2.symm,rfl,k2.symm⟩ (za (zi (zh (λh9 => ?_) λh9 => ?_)))
    ·have h9:=uE h9
     refine ze (za (zi ?_))
     rw[hw]
     have e:g t=g w:=by rw[k3]at hz; simpa using hz
     refine⟨fin i ?_ rfl,by dsimp only; omega⟩
     rw[h8]at h9
     simp only[e,ne_eq,not_true_eq_false,decide_false,Bool.and_false,and_true]
     split
     ·rfl
     ·rename_i h10; rw[if_neg (λh=>h10 h.1)]at h9; exact absurd h9 h10
    ·have h9:=gZ h9
     refine ze (za (zi ?_))
     rw[hw]
     have e:g t=g w:=by rw[k3]at hz; simpa using hz
     refine⟨fin f ?_ rfl,by dsimp only; omega⟩
     rw[h8]at h9 ⊢
     simp only[e,ne_eq,not_true_eq_false,decide_false,Bool.and_false,and_true]
     by_cases h10:first<0/\ok=false
     ·rw[if_pos h10,if_pos h10.1]
     ·rw[if_neg h10]at h9 ⊢; rw[if_neg h9]
   ·refine zj ⟨k2.symm,rfl,k2.symm⟩ (za (zi (zh (λh9=>nomatch h9) λ_ => ?_)))
    refine ze (za (zi ?_))
    rw[hw]
    have e:decide (g t≠g w)=true:=by rw[k3]at hz; simpa using hz
    refine⟨fin f ?_ rfl,by dsimp only; omega⟩
    rw[e,Bool.and_true]; exact h8
  ·have h:=gZ h
   rw[qC (Z)]at h6 h7
   refine ze (za (zi ⟨by rw[h6]; exact h5,h4,?_⟩))
   rw[h7]
   simpa[G.Kf]using h8
 ·rw[hv]
  have hlen:c.2.1.length=0:=by have:=congrArg qI hv; unfold vs at this; simpa using this
  refine vX (λs=>s=(first,1,row,c)) (λ_=>0) rfl λs hs => ?_
  subst hs
  unfold eD
  exact zh (λh=>absurd (uE h) (by rw[hlen]; omega)) λ_=>ze (za (zi ⟨hr,hn,by simp[G.MS]⟩))
open T PL
def cw(c:vI):Prop:=cg c/\cb c<=1000000/\c.2.1.length<=1000
def Ac(n:Int)(l:List vI):Prop:=l.length<=1000/\∀ c∈l,cw c/\(cT c n).run=some true
theorem Ac.vc{n:Int}{l:List vI}(h:Ac n l)(hn:n<=64){c:vI}(hc:c∈l):VC n c:=by
 obtain⟨h1,M⟩:=h.2 c hc
 exact Gw ((inferInstance:Sp (cT c n) (n<=1000000/\cg c/\cb c<=1000000/\c.2.1.length<=1000000) (λr=>r=true->VC n c)).sp ⟨Z,h1.1,h1.2.1,by have:=h1.2.2; omega⟩) M rfl
instance (l:List vI) (n:Int):Sp (mV l n) (0<=n/\n<=64/\Ac n l) (λr => -1<=r/\r<l.length/\(r<0->G.VY id 0 (l.map vs) = -1)):=⟨λ⟨h0,h1,M⟩=>by
 obtain⟨n,rfl⟩:=X h0
 have R:=M.1
 have e1:V1 (l8 (n:Int) 0) 64=(n:Int):=by unfold V1 l8; split<;>split<;>omega
 unfold mV ZH
 dsimp only
 rw[e1,zS]
 refine xn (zj ⟨Z,Z,Z,Z⟩ (uo (qz) (xn (wm (z6a n (Z) l n) λrow ⟨a1,a2⟩=>ze (za (xn ?_))))))
 refine wm (P:=λ(z:Int×List Int) => -1<=z.1/\z.1<l.length/\(z.1<0->G.VY id 0 (l.map vs) = -1)) ?_ λz hz=>za (zi (zi hz))
 unfold Qo
 refine vX (σ:=Int×Int×List Int) (λ(e,b,a)=>0<=b/\b<=l.length/\a.length=n/\G.RL a (((l.take b.toNat).map vs).foldl (λf c=>(G.MS f c).1) id) /\ -1<=e/\e<max b 1/\(e<b)/\(e<0->G.VY id 0 ((l.take b.toNat).map vs) = -1)) (λ(_,b,_)=>(l.length-b).toNat)
  ⟨Z,Z,a2,by simpa using a1,Z,Z,Z,λ_=>rfl⟩ λ⟨e,b,a⟩ ⟨b0,b1,b2,b3,b4,b5,b6,b7⟩ => ?_
 unfold nP
 refine zh (λh => ?_) λh => ?_
 ·have h:=uE h
  have hm:=xw (d:=zb zq) b0 h
  have hv:=M.vc h1 hm
  obtain⟨k1,k2⟩:=M.2 _ hm
  have ht:=mj l b (zb zq) b0 h
  have hw:qo (b+1)=b+1:=qv (Z) (Z)
  dsimp only
  generalize nth l b (zb zq)=c at *
  refine qw ⟨b0,h⟩ (xn (bF k2 (zh nofun λ_=>ze (za (xn (wm (zaU n c hv k1.2.2 b e _ _ _ _ a b3 b2) λz hz => ?_))))))
  obtain⟨z1,z2,z3⟩:=z
  obtain⟨c1,c2,c3⟩:=hz
  refine ze (za (zi ?_))
  dsimp only at c1 c2 c3 ⊢
  rw[hw,ht,qD,List.foldl_append]
  refine⟨⟨Z,Z,c2,by simpa using c1,?_,?_,?_,λhz => ?_⟩,Z⟩
  ·rw[c3]; split<;>omega
  ·rw[c3]; split<;>omega
  ·rw[c3]; split<;>omega
  ·rw[c3]at hz
   have he:e<0:=by split at hz<;>omega
   rw[List.map_singleton,z06 _ _ _ _ (Z) (b7 he)]
   split
   ·rfl
   ·rename_i hf
    rw[if_pos ⟨he,by simpa using hf⟩]at hz
    omega
 ·have h:=gZ h
  have e2:l.take b.toNat=l:=zL (Z)
  rw[e2]at b7
  exact ze (za (zi ⟨b4,by dsimp only; omega,b7⟩))⟩
instance (l:List vI) (n:Int):Sp (oy l n) (0<=n/\n<=64/\Ac n l) (λr=>r=true->G.VY id 0 (l.map vs) = -1):=⟨λh=>by unfold oy; exact gog⟩
open T PL
def mx(S:Int->Int)(v w:Int)(l:List Term):Int:=l.foldl (λw t=>if t.1=v then w else max w (S t.1)) w
theorem Ub{S S':Int->Int}{v:Int}:∀ (l:List Term) (w:Int),(∀ t∈l,t.1≠v->S t.1=S' t.1)->mx S v w l=mx S' v w l
 | [],_,_=>rfl
 | t::r,w,h=>by
  show mx S v (if t.1=v then w else max w (S t.1)) r=mx S' v (if t.1=v then w else max w (S' t.1)) r
  rw[Ub r _ λu hu=>h u (zM _ hu)]
  by_cases e:t.1=v
  ·rw[if_pos e,if_pos e]
  ·rw[if_neg e,if_neg e,h t zV e]
abbrev di:Int:=zb (.int .i64)
structure Ch(n:Nat)(l:List vI)(o b:List Int):Prop where
 ac:Ac n l
 n1:1<=n
 n64:n<=64
 fr:G.VY id 0 (l.map vs) = -1
 ol:o.length=l.length
 bl:b.length=n
 oc:∀ i:Int,0<=i->i<l.length->nth o i di = -1\/(nth o i di∈vs (nth l i (zb zq))/\nth b (nth o i di) di=i)
 bc:∀ v:Int,0<=v->v<n->nth b v di = -1\/(0<=nth b v di/\nth b v di<l.length/\nth o (nth b v di) di=v)
theorem ik{c:vI}{v:Int}:v∈vs c↔∃ t∈c.2.1,t.1=v:=by unfold vs; simp
theorem Ch.vr{n:Nat}{l:List vI}{o b:List Int}(h:Ch n l o b){i:Int}(h0:0<=i)(h1:i<l.length){v:Int}(hv:v∈vs (nth l i (zb zq))):0<=v/\v<n:=by
 obtain⟨t,ht,rfl⟩:=ik.1 hv
 exact(h.ac.vc (by have:=h.n64; omega) (xw h0 h1)).2.2 t ht
theorem Pe{l:List vI}{o:List Int}(hf:G.VY id 0 (l.map vs) = -1):∃ (rk:Int->Nat) (hI:Nat),(∀ v,rk v<=hI)/\∀ i:Int,0<=i->i<l.length->i<o.length->nth o i di∈vs (nth l i (zb zq))->∀ t∈vs (nth l i (zb zq)),t≠nth o i di->rk t<rk (nth o i di):=by
 obtain⟨rk,hI,hB,hA⟩:=G.zkI (l.map vs) o id 0 (λ_=>0) 0 [] [] (Z) hf rfl (λ_=>zT _) (λc hc=>by cases hc) (λi h=>by cases h)
 simp only[List.nil_append]at hA
 refine⟨rk,hI,hB,λi h0 h1 M hm t ht jX => ?_⟩
 obtain⟨k,rfl⟩:=X h0
 have hk:k<l.length:=Z
 have Kw:k<o.length:=Z
 have e1:nth o (k:Int) di=o[k]:=by simp[nth,Kw]
 have e2:nth l (k:Int) (zb zq)=l[k]:=by simp[nth,hk]
 rw[e1]at hm jX ⊢
 rw[e2]at hm ht
 exact hA k (by simpa using hk) Kw (by simpa using hm) t (by simpa using ht) jX
def sN(l:List vI)(b:List Int):Nat->Int->Int
 | 0,_=>4
 | k+1,v=>if nth b v di = -1 then 4 else mx (sN l b k) v (nth l (nth b v di) (zb zq)).1 (nth l (nth b v di) (zb zq)).2.1
def Sg(n:Nat)(l:List vI)(b:List Int)(S:Int->Int):Prop:=∀ v:Int,0<=v->v<n->S v=if nth b v di = -1 then 4 else mx S v (nth l (nth b v di) (zb zq)).1 (nth l (nth b v di) (zb zq)).2.1
def Rk(n:Nat)(l:List vI)(b:List Int)(rk:Int->Nat):Prop:=∀ v:Int,0<=v->v<n->nth b v di ≠ -1->∀ t∈vs (nth l (nth b v di) (zb zq)),t≠v->rk t<rk v
theorem Ch.rk{n:Nat}{l:List vI}{o b:List Int}(h:Ch n l o b):∃ (rk:Int->Nat) (hI:Nat),(∀ v,rk v<=hI)/\Rk n l b rk:=by
 obtain⟨rk,hI,hB,hr⟩:=Pe (o:=o) h.fr
 refine⟨rk,hI,hB,λv h0 h1 I t ht jX => ?_⟩
 rcases h.bc v h0 h1 with e | ⟨b0,b1,b2⟩
 ·exact absurd e I
 ·have hm:nth o (nth b v di) di∈vs (nth l (nth b v di) (zb zq)):=by
   rcases h.oc _ b0 b1 with e | e
   ·rw[e]at b2; omega
   ·exact e.1
  have:=hr _ b0 b1 (by rw[h.ol]; exact b1) hm t ht (by rw[b2]; exact jX)
  rwa [b2]at this
theorem Ch.sg{n:Nat}{l:List vI}{o b:List Int}(h:Ch n l o b):∃ S,Sg n l b S:=by
 obtain⟨rk,hI,hB,hr⟩:=h.rk
 have more:∀ (k:Nat) (v:Int),0<=v->v<n->rk v<k->sN l b (k+1) v=sN l b k v:=by
  intro k
  induction k with
  | zero=>intro v _ _ hk; omega
  | succ k ih =>
   intro v h0 h1 hk
   show(if nth b v di = -1 then 4 else _)=(if nth b v di = -1 then 4 else _)
   by_cases e:nth b v di = -1
   ·rw[if_pos e,if_pos e]
   ·rw[if_neg e,if_neg e]
    refine Ub _ _ λt ht jX => ?_
    have hm:t.1∈vs (nth l (nth b v di) (zb zq)):=ik.2 ⟨t,ht,rfl⟩
    rcases h.bc v h0 h1 with e' | ⟨b0,b1,_⟩
    ·exact absurd e' e
    ·have hv:=h.vr b0 b1 hm
     exact ih t.1 hv.1 hv.2 (by have:=hr v h0 h1 e t.1 hm jX; omega)
 refine⟨sN l b (hI+1),λv h0 h1 => ?_⟩
 rw[<- more (hI+1) v h0 h1 (by have:=hB v; omega)]
 rfl
open T PL
theorem TU{α:Type}(l:List α)(i:Int)(d:α)(h0:0<=i)(h:i<l.length):l.drop i.toNat=nth l i d::l.drop (i+1).toNat:=by
 have e:(i+1).toNat=i.toNat+1:=Z
 rw[zY (Z),e]
 unfold nth
 simp[zA,show i.toNat<l.length by omega]
theorem z81(a b:Int):l8 a b=max a b:=by unfold l8; split<;>omega
theorem BB{n:Nat}{l:List vI}{o b:List Int}(h:Ch n l o b){S:Int->Int}(hS:Sg n l b S){rk:Int->Nat}(hr:Rk n l b rk)(v:Int)(hv:0<=v/\v<n) :
  (jH v (l,()) o b).wp λr=>r=(S v,(l,()),o,b):=by
 unfold jH
 refine se (x:=(v,(l,()),o,b)) (σ:=Int×(List vI×Unit)×List Int×List Int) (ρ:=Int×(List vI×Unit)×List Int×List Int) (λ(v,c,x,y)=>(c=(l,())/\x=o/\y=b)/\0<=v/\v<n) (λ(v,_)=>rk v) (λ(v,_) r=>r=(S v,(l,()),o,b)) ?_ ?_ ⟨⟨rfl,rfl,rfl⟩,hv⟩
 ·intro g g' hg x
  unfold j4 gO jY
  exact mono
 ·rintro⟨v,c,x,y⟩ ⟨⟨rfl,rfl,rfl⟩,hv⟩ g hg
  dsimp only at hg hv ⊢
  unfold j4
  simp only[rJ]
  have hs:=hS v hv.1 hv.2
  refine qw ⟨hv.1,by rw[h.bl]; exact hv.2⟩ (zj ⟨rfl,by rw[h.bl]; omega⟩ (zh (λe => ?_) λe => ?_))
  ·rw[if_pos (by simpa using e)]at hs
   exact ze (ze (za (za (zi (by rw[hs])))))
  ·have e:¬ nth y v di = -1:=by simpa using e
   rw[if_neg e]at hs
   rcases h.bc v hv.1 hv.2 with k | ⟨b0,b1,_⟩
   ·exact absurd k e
   have Ds:=hr v hv.1 hv.2 e
   have hvr:=λt ht=>h.vr b0 b1 (v:=t) ht
   have hlen:(nth l (nth y v di) (zb zq)).2.1.length<=1000:=(h.ac.2 _ (xw b0 b1)).1.2.2
   generalize hc:nth l (nth y v di) (zb zq)=c at *
   refine qw ⟨b0,b1⟩ (qw ⟨b0,b1⟩ (ze (ze (za (za (xn ?_))))))
   refine wm (P:=λz=>z=(S v,(l,()),x,y)) ?_ λz hz=>by subst hz; exact ze (ze (za (za (zi rfl))))
   unfold gO
   refine vX (σ:=Int×Int×(List vI×Unit)×List Int×List Int) (λ(f,i,q,a,d)=>(q=(l,())/\a=x/\d=y)/\0<=i/\i<=c.2.1.length/\mx S v f (c.2.1.drop i.toNat)=S v) (λ(_,i,_)=>(c.2.1.length-i).toNat) ⟨⟨rfl,rfl,rfl⟩,Z,Z,hs.symm⟩ ?_
   rintro⟨f,i,q,a,d⟩ ⟨⟨rfl,rfl,rfl⟩,i0,i1,hm⟩
   unfold jY
   refine zh (λhi => ?_) λhi => ?_
   ·have hi:=uE hi
    rw[TU _ _ (zb qj) i0 hi]at hm
    have ht:=xw (d:=zb qj) i0 hi
    have hw:qo (i+1)=i+1:=qv (Z) (Z)
    dsimp only
    generalize nth c.2.1 i (zb qj)=t at *
    have hm:mx S v (if t.1=v then f else max f (S t.1)) (c.2.1.drop (i+1).toNat)=S v:=hm
    have htv:t.1∈vs c:=ik.2 ⟨t,ht,rfl⟩
    refine qw ⟨i0,hi⟩ (zh (λe => ?_) λe => ?_)
    ·have e:t.1≠v:=by simpa using e
     rw[if_neg e]at hm
     refine ze (ze (za (za (xn (wm (hg (t.1,(l,()),a,d) ⟨⟨rfl,rfl,rfl⟩,hvr _ htv⟩ (Ds _ htv e)) λz hz => ?_)))))
     subst hz
     refine ze (ze (za (za (zi ?_))))
     rw[hw,z81]
     refine⟨⟨⟨rfl,rfl,rfl⟩,?_,?_,hm⟩,?_⟩<;>clear hs Ds hvr hm<;>simp only<;>omega
    ·have e:t.1=v:=by simpa using e
     rw[if_pos e]at hm
     refine ze (ze (za (za (zi ?_))))
     rw[hw]
     refine⟨⟨⟨rfl,rfl,rfl⟩,?_,?_,hm⟩,?_⟩<;>clear hs Ds hvr hm<;>simp only<;>omega
   ·have hi:=gZ hi
    rw[qC (Z)]at hm
    exact ze (ze (za (za (zi (by have:f=S v:=hm; rw[this])))))
def Wk1(S:Int->Int)(taken:List Int)(w:Int)(l:List Term)(j:Int):Prop:=(j = -1/\∀ t∈l,t.1∈taken\/S t.1<=w)\/((∃ t∈l,t.1=j)/\j ∉ taken/\w<S j/\∀ t∈l,t.1∈taken\/S t.1<=S j)
theorem LW{n:Nat}{l:List vI}{o b:List Int}(h:Ch n l o b){S:Int->Int}(hS:Sg n l b S){rk:Int->Nat}(hr:Rk n l b rk)(i:Int)(hi:0<=i/\i<l.length)(q:List Int) :
  (y7 i (l,()) q o b).wp λr=>r.2=((l,()),q,o,b)/\Wk1 S q (nth l i (zb zq)).1 (nth l i (zb zq)).2.1 r.1:=by
 unfold y7
 have hvr:=λt ht=>h.vr hi.1 hi.2 (v:=t) ht
 have hlen:(nth l i (zb zq)).2.1.length<=1000:=(h.ac.2 _ (xw hi.1 hi.2)).1.2.2
 dsimp only
 generalize nth l i (zb zq)=c at *
 refine qw hi (qw hi (ze (ze (za (za (xn ?_))))))
 refine wm (P:=λz=>z.2=((l,()),q,o,b)/\Wk1 S q c.1 c.2.1 z.1) ?_ λz hz=>by
  obtain⟨z1,z2⟩:=z
  obtain⟨rfl,hz⟩:=hz
  exact ze (ze (za (za (zi ⟨rfl,hz⟩))))
 unfold dP
 refine vX (σ:=Int×Int×Int×(List vI×Unit)×List Int×List Int×List Int) (λ(j,k,i,q',g,a,d)=>(q'=(l,())/\g=q/\a=o/\d=b)/\0<=i/\i<=c.2.1.length/\(j = -1/\k=c.1\/j ≠ -1/\k=S j)/\Wk1 S q c.1 (c.2.1.take i.toNat) j) (λ(_,_,i,_)=>(c.2.1.length-i).toNat)
  ⟨⟨rfl,rfl,rfl,rfl⟩,Z,Z,.inl ⟨rfl,rfl⟩,.inl ⟨rfl,λt ht=>by simp at ht⟩⟩ ?_
 rintro⟨j,k,i,q',g,a,d⟩ ⟨⟨rfl,rfl,rfl,rfl⟩,i0,i1,hk,hw⟩
 unfold yY
 refine zh (λhi => ?_) λhi => ?_
 ·have hi:=uE hi
  have ht:=xw (d:=zb qj) i0 hi
  have hts:=mj c.2.1 i (zb qj) i0 hi
  have hwi:qo (i+1)=i+1:=qv (Z) (Z)
  dsimp only
  generalize nth c.2.1 i (zb qj)=t at *
  have htr:=hvr _ (ik.2 ⟨t,ht,rfl⟩)
  refine qw ⟨i0,hi⟩ (ze (ze (za (za (xn (wm (BB h hS hr t.1 htr) λz hz => ?_))))))
  subst hz
  have hwf:wfI t.1:=by
   have:=h.n64
   have:=htr.1
   have:=htr.2
   show(decide (-9223372036854775808<=t.1)&&decide (t.1<=9223372036854775807))=true
   rw[zU,decide_eq_true_eq,decide_eq_true_eq]; exact⟨zP (xm) htr.1,zP (qB htr.2) (Z)⟩
  refine zj hwf (zh (λe=>ze (ze (za (za (zi ?_))))) λe=>ze (ze (za (za (zi ?_)))))
  ·simp only[zU,Bool.not_eq_true',decide_eq_true_eq,zW,decide_eq_false_iff_not]at e
   rw[hwi]
   have zsr:=htr.1
   have e2:=e.2
   refine⟨⟨⟨rfl,rfl,rfl,rfl⟩,by simp only; omega,by simp only; omega,.inr ⟨by simp only; omega,rfl⟩,?_⟩,by simp only; omega⟩
   show Wk1 S g c.1 (c.2.1.take (i+1).toNat) t.1
   rw[hts]
   refine .inr ⟨⟨t,qz,rfl⟩,e.1,?_,λu hu => ?_⟩
   ·rcases hk with⟨_,hk⟩ | ⟨hj,hk⟩
    ·omega
    ·rcases hw with hw | hw
     ·exact absurd hw.1 hj
     ·have:=hw.2.2.1; omega
   ·rcases zG.1 hu with hu | hu
    ·rcases hk with⟨hj,hk⟩ | ⟨hj,hk⟩
     ·rcases hw with hw | hw
      ·exact(hw.2 u hu).imp_right λx=>Z
      ·obtain⟨u',RQ,e'⟩:=hw.1
       exfalso
       have:=hvr _ (ik.2 ⟨u',zF RQ,rfl⟩)
       have e3:u'.1=j:=e'
       have e4:j = -1:=hj
       rw[e3,e4]at this
       exact absurd this.1 (xm)
     ·rcases hw with hw | hw
      ·exact absurd hw.1 hj
      ·exact(hw.2.2.2 u hu).imp_right λx=>Z
    ·rw[zE.1 hu]; exact .inr (qH _)
  ·simp only[Bool.and_eq_false_iff,Bool.not_eq_false',decide_eq_false_iff_not,zW,decide_eq_true_eq]at e
   rw[hwi]
   refine⟨⟨⟨rfl,rfl,rfl,rfl⟩,by simp only; omega,by simp only; omega,hk,?_⟩,by simp only; omega⟩
   show Wk1 S g c.1 (c.2.1.take (i+1).toNat) j
   rw[hts]
   rcases hw with hw | hw
   ·refine .inl ⟨hw.1,λu hu => ?_⟩
    rcases zG.1 hu with hu | hu
    ·exact hw.2 u hu
    ·rw[zE.1 hu]
     rcases hk with hk | hk
     ·exact e.imp_right λx=>Z
     ·exact absurd hw.1 hk.1
   ·refine .inr ⟨by obtain⟨u,hu,e'⟩:=hw.1; exact⟨u,by simp[hu],e'⟩,hw.2.1,hw.2.2.1,λu hu => ?_⟩
    rcases zG.1 hu with hu | hu
    ·exact hw.2.2.2 u hu
    ·rw[zE.1 hu]
     rcases hk with hk | hk
     ·obtain⟨u',RQ,e'⟩:=hw.1
      exfalso
      have:=hvr _ (ik.2 ⟨u',zF RQ,rfl⟩)
      have e3:u'.1=j:=e'
      have e4:j = -1:=hk.1
      rw[e3,e4]at this
      exact absurd this.1 (xm)
     ·exact e.imp_right λx=>Z
 ·have hi:=gZ hi
  rw[zL (Z)]at hw
  exact ze (ze (za (za (zi ⟨rfl,hw⟩))))
open T PL
abbrev tr(l:List vI)(i:Int):Int:=(nth l i (zb zq)).1
abbrev tm(l:List vI)(i:Int):List Term:=(nth l i (zb zq)).2.1
abbrev vl(l:List vI)(i:Int):List Int:=vs (nth l i (zb zq))
def sk:List vI->List Int->Int
 | c::l,w::o=>(if w = -1 then 0 else 5-c.1)+sk l o
 | _,_=>0
theorem CU:∀ (l:List vI) (o:List Int) (k:Nat) (w:Int),k<l.length->k<o.length->sk l (o.set k w)=sk l o+(if w = -1 then 0 else 5-(l.getD k (zb zq)).1)-(if o.getD k di = -1 then 0 else 5-(l.getD k (zb zq)).1)
 | c::l,x::o,0,w,_,_=>by simp only[List.set_cons_zero,sk,List.getD_cons_zero]; omega
 | c::l,x::o,k+1,w,h,h'=>by
  have:=CU l o k w (by simpa using h) (by simpa using h')
  simp only[List.set_cons_succ,sk,List.getD_cons_succ]
  omega
theorem z2G:∀ (l:List vI) (o:List Int),(∀ c∈l,0<=c.1/\c.1<=4)->0<=sk l o/\sk l o<=5*l.length
 | [],[],_ | [],_::_,_ | _::_,[],_=>by simp only[sk,qI]; omega
 | c::l,x::o,h=>by
  have h1:=z2G l o λc hc=>h c (zM _ hc)
  obtain⟨M,h3⟩:=h c zV
  have M:(0:Int)<=c.1:=M
  have h3:(4:Int) >= c.1:=h3
  simp only[sk,List.length_cons]
  split<;>omega
theorem Ve{α:Type}{l:List α}{i j:Int}{x d:α}(h0:0<=i)(h1:i<l.length)(h:0<=j):nth (l.set (0+i.toNat) x) j d=if j=i then x else nth l j d:=by
 unfold nth
 rw[zA,List.getElem?_set,zA]
 by_cases e:j=i
 ·rw[if_pos (Z),if_pos (Z),if_pos e]; rfl
 ·rw[if_neg (Z),if_neg e]
theorem TI{p q:Nat->Bool}{a:Nat}:∀ (l:List Nat),(∀ x,q x=true->p x=true)->a∈l->p a=true->q a=false->l.countP q<l.countP p
 | x::l,h,ha,h1,M=>by
  rw[List.countP_cons,List.countP_cons]
  have hle:l.countP q<=l.countP p:=List.countP_mono_left λx _=>h x
  rcases zR.1 ha with rfl | hm
  ·rw[h1,M]; simp only[if_true,Bool.false_eq_true,if_false]; exact Nat.lt_succ_of_le hle
  ·have:=TI l h hm h1 M
   cases hq:q x
   ·rw[if_neg (xm)]; omega
   ·rw[h x hq,if_pos rfl]; omega
def un(n:Nat)(s:List Int):Nat:=(List.range n).countP λ(v:Nat) => !s.contains (v:Int)
theorem zkU{n:Nat}{s s':List Int}{j:Int}(hs:∀ x∈s,x∈s')(h:j∈s')(h':j ∉ s)(h0:0<=j)(h1:j<n):un n s'<un n s:=by
 obtain⟨k,rfl⟩:=X h0
 refine TI (a:=k) _ (λx N => ?_) (List.mem_range.2 (Z)) (by simpa using h') (by simpa using h)
 simp only[Bool.not_eq_true',zW,decide_eq_false_iff_not]at N ⊢
 exact λk=>N (hs _ k)
theorem z2c{S:Int->Int}{v h2:Int}:∀ (l:List Term) (w:Int),w<=h2->(∀ t∈l,t.1≠v->S t.1<=h2)->mx S v w l<=h2
 | [],_,h,_=>h
 | t::r,w,h,k=>by
  refine z2c r _ ?_ λu hu=>k u (zM _ hu)
  dsimp only
  split
  ·exact h
  ·have:=k t zV ‹_›
   omega
section
variable {n:Nat} {l:List vI} {o b o2 b2:List Int} {c j:Int}
theorem Ch.step(h:Ch n l o b)(c0:0<=c)(c1:c<l.length)(ho:nth o c di = -1)(hj:j∈vl l c)(l2:o2.length=l.length)
  (e2:∀ k:Int,0<=k->k<l.length->nth o2 k di=if k=c then j else if k=nth b j di then -1 else nth o k di) (l3:b2.length=n) (e3:∀ v:Int,0<=v->nth b2 v di=if v=j then c else nth b v di):Ch n l o2 b2:=by
 have Dm:=h.vr c0 c1 hj
 have hbj:=h.bc j Dm.1 Dm.2
 refine⟨h.ac,h.n1,h.n64,h.fr,l2,l3,λi i0 i1 => ?_,λv v0 v1 => ?_⟩
 ·rw[e2 i i0 i1]
  by_cases k:i=c
  ·rw[if_pos k,e3 j Dm.1,if_pos rfl,k]; exact .inr ⟨hj,rfl⟩
  ·rw[if_neg k]
   by_cases k':i=nth b j di
   ·rw[if_pos k']; exact .inl rfl
   ·rw[if_neg k']
    refine(h.oc i i0 i1).imp_right λ⟨m,e⟩=>⟨m,?_⟩
    rw[e3 _ (h.vr i0 i1 m).1,if_neg (λx=>k' (by rw[<- x,e]))]
    exact e
 ·rw[e3 v v0]
  by_cases k:v=j
  ·rw[if_pos k,e2 c c0 c1,if_pos rfl]; exact .inr ⟨c0,c1,k.symm⟩
  ·rw[if_neg k]
   refine(h.bc v v0 v1).imp_right λ⟨b0,b1,e⟩=>⟨b0,b1,?_⟩
   rw[e2 _ b0 b1,if_neg (λx=>by rw[x,ho]at e; omega),if_neg (λx => ?_)]
   ·exact e
   ·rcases hbj with y | y
    ·rw[x,y]at b0; exact absurd b0 (xm)
    ·exact k (by rw[<- e,x,y.2.2])
theorem z8K(h:Ch n l o b){rk:Int->Nat}(hr:Rk n l b rk){S S':Int->Int}(hS:Sg n l b S)(e3:∀ v:Int,0<=v->nth b2 v di=if v=j then c else nth b v di)(hS':Sg n l b2 S') :
  ∀ (k:Nat) (u:Int),0<=u->u<n->rk u<k->rk u<rk j->S' u=S u:=by
 intro k
 induction k with
 | zero=>intro u _ _ h; omega
 | succ k ih =>
  intro u u0 u1 hk hj
  have e:nth b2 u di=nth b u di:=by rw[e3 u u0,if_neg (λx=>by rw[x]at hj; omega)]
  rw[hS' u u0 u1,hS u u0 u1,e]
  by_cases x:nth b u di = -1
  ·rw[if_pos x,if_pos x]
  ·rw[if_neg x,if_neg x]
   refine Ub _ _ λt ht jX => ?_
   have hm:=ik.2 ⟨t,ht,rfl⟩
   rcases h.bc u u0 u1 with y | ⟨b0,b1,_⟩
   ·exact absurd y x
   ·have hv:=h.vr b0 b1 hm
    have:=hr u u0 u1 x t.1 hm jX
    exact ih t.1 hv.1 hv.2 (Z) (Z)
def TK(l:List vI)(o s:List Int)(v:Int):Prop:=∀ rk:Int->Nat,(∀ m:Int,0<=m->m<l.length->nth o m di∈s->∀ t∈vl l m,t≠nth o m di->rk t<rk (nth o m di))->∀ u∈s,rk u<=rk v
theorem TK.free{s:List Int}{v:Int}(k:TK l o s v)(h:Ch n l o b)(hs:∀ x∈s,0<=x/\x<n)(c0:0<=c)(c1:c<l.length)(ho:nth o c di = -1)(hv:v∈vl l c){t:Int}(ht:t∈vl l c)(jX:t≠v):t ∉ s:=λhts=>by
 obtain⟨rk,hI,_,hr⟩:=Pe (o:=o.set (0+c.toNat) t) h.fr
 have T8:=h.ol
 have hc:nth (o.set (0+c.toNat) t) c di=t:=by rw[Ve c0 (Z) c0,if_pos rfl]
 have h1:=hr c c0 c1 (by rw[List.length_set]; omega) (by rw[hc]; exact ht) v hv (by rw[hc]; exact jX.symm)
 rw[hc]at h1
 have M:=k rk (λm m0 m1 hm u hu jX => ?_) t hts
 ·omega
 ·have hmc:m≠c:=λx=>by rw[x,ho]at hm; exact absurd (hs _ hm).1 (xm)
  have e:nth (o.set (0+c.toNat) t) m di=nth o m di:=by rw[Ve c0 (Z) m0,if_neg hmc]
  have:=hr m m0 m1 (by rw[List.length_set]; omega)
  rw[e]at this
  refine this ?_ u hu jX
  rcases h.oc m m0 m1 with x | x
  ·rw[x]at hm; exact absurd (hs _ hm).1 (xm)
  ·exact x.1
theorem TK.step{s:List Int}(h:Ch n l o b)(hs:∀ x∈s,0<=x/\x<n)(c0:0<=c)(c1:c<l.length)(ho:nth o c di = -1)(hj:j∈vl l c)(hjs:j ∉ s)
  (e2:∀ k:Int,0<=k->k<l.length->nth o2 k di=if k=c then j else if k=nth b j di then -1 else nth o k di) (hk:s=[]\/∃ v∈vl l c,TK l o s v):TK l o2 (s++vl l c) j:=λrk hrk=>by
 have hc:∀ t∈vl l c,rk t<=rk j:=λt ht=>by
  by_cases e:t=j
  ·rw[e]; exact zT _
  ·have:=hrk c c0 c1
   rw[e2 c c0 c1,if_pos rfl]at this
   exact Nat.le_of_lt (this (qF _ hj) t ht e)
 intro u hu
 rcases zG.1 hu with hu | hu
 ·rcases hk with rfl | ⟨v,hv,hk⟩
  ·cases hu
  ·refine Y (hk rk (λm m0 m1 hm => ?_) u hu) (hc v hv)
   have hmc:m≠c:=λx=>by rw[x,ho]at hm; exact absurd (hs _ hm).1 (xm)
   have hmb:m≠nth b j di:=λx=>by
    have Dm:=h.vr c0 c1 hj
    rcases h.bc j Dm.1 Dm.2 with y | y
    ·rw[x,y]at m0; exact absurd m0 (xm)
    ·rw[x,y.2.2]at hm; exact hjs hm
   have:=hrk m m0 m1
   rw[e2 m m0 m1,if_neg hmc,if_neg hmb]at this
   exact this (qJ _ hm)
 ·exact hc u hu
end
theorem zaa{t:Int}(h : -9223372036854775808<=t)(h':t<=9223372036854775807):wfI t:=by
 show(decide (-9223372036854775808<=t)&&decide (t<=9223372036854775807))=true
 rw[zU,decide_eq_true_eq,decide_eq_true_eq]
 exact⟨h,h'⟩
theorem TV(p:Int)(e:List Term)(L:List vI)(o b s:List Int)(he:∀ t∈e,0<=t.1/\t.1<64)(R:s.length+e.length<=4294967295) :
  (yB p e (Nat.cast (qI e):Int) (0,((L,()),(o,(b,s))))).wp λr=>r=((L,()),o,b,s++e.map (·.1)):=by
 unfold yB
 refine vX (σ:=Int×(List vI×Unit)×List Int×List Int×List Int) (λ(i,q,x,y,z)=>(q=(L,())/\x=o/\y=b/\z=s++(e.take i.toNat).map (·.1))/\0<=i/\i<=e.length) (λ(i,_)=>(e.length-i).toNat) ⟨⟨rfl,rfl,rfl,qz⟩,Z,Z⟩ ?_
 rintro⟨i,q,x,y,z⟩ ⟨⟨rfl,rfl,rfl,rfl⟩,i0,i1⟩
 unfold yD
 refine zh (λhi => ?_) λhi => ?_
 ·have hi:=uE hi
  have ht:=he _ (xw (d:=zb qj) i0 hi)
  have hts:=mj e i (zb qj) i0 hi
  have hwi:qo (i+1)=i+1:=qv (Z) (Z)
  refine qw ⟨i0,hi⟩ (zj ⟨rfl,?_,?_⟩ (ze (ze (za (za (zi ?_))))))
  ·exact zaa (zP (xm) ht.1) (zP (qB ht.2) (xm))
  ·rw[List.length_append,List.length_map,zH]; omega
  ·rw[hwi]
   refine⟨⟨⟨rfl,rfl,rfl,?_⟩,Z,Z⟩,by simp only; omega⟩
   rw[hts,qD,List.append_assoc]
   rfl
 ·have hi:=gZ hi
  rw[zL (Z)]
  exact ze (ze (za (za (zi rfl))))
theorem zaX{n:Nat}{l:List vI}{o b:List Int}(h:Ch n l o b){c:Int}(hc:0<=c/\c<l.length)(ho:nth o c di = -1) :
  (kI c (l,()) o b).wp λr=>r.1=(l,())/\Ch n l r.2.1 r.2.2/\(r.2.1=o/\r.2.2=b\/sk l o<sk l r.2.1):=by
 unfold kI cV
 have hn:=h.n64
 refine ze (ze (za (za (xn (wm (P:=λz=>z.elim (λ(p,x,y,_)=>p=(l,())/\Ch n l x y/\(x=o/\y=b\/sk l o<sk l x)) (λ(p,x,y,_)=>p=(l,())/\Ch n l x y/\(x=o/\y=b\/sk l o<sk l x))) ?_ λz hz => ?_)))))
 case refine_2 =>
  rcases z with⟨p,x,y,s⟩ | ⟨p,x,y,s⟩<;>obtain⟨rfl,hz⟩:=hz<;>exact ze (ze (za (za (zi ⟨rfl,hz⟩))))
 refine vX (σ:=Int×(List vI×Unit)×List Int×List Int×List Int) (λ(i,p,x,y,s)=>p=(l,())/\Ch n l x y/\(∀ u∈s,0<=u/\u<n)/\s.length+1000*un n s<=1000*n /\
   (i = -1/\sk l o<sk l x\/(0<=i/\i<l.length/\nth x i di = -1)/\(i=c/\x=o/\y=b/\s=[]\/∃ (v h2:Int),v∈vl l i/\TK l x s v/\tr l c<h2/\sk l x=sk l o+tr l i-tr l c/\∀ S,Sg n l y S->h2<=mx S v (tr l i) (tm l i))))
  (λ(_,_,_,_,s)=>un n s) ⟨rfl,h,nofun,?_,.inr ⟨⟨hc.1,hc.2,ho⟩,.inl ⟨rfl,rfl,rfl,rfl⟩⟩⟩ ?_
 ·have:un n []<=n:=Y qE (by rw[List.length_range]; exact zT _)
  simp only[List.length_nil]; omega
 rintro⟨i,p,x,y,s⟩ ⟨rfl,hC,hs,R,B⟩
 unfold yC
 simp only[rJ]
 refine zh (λhi => ?_) λhi => ?_
 ·have hi:i ≠ -1:=by simpa using hi
  obtain⟨⟨i0,i1,N⟩,B⟩:=B.resolve_left λk=>hi k.1
  obtain⟨S,hS⟩:=hC.sg
  obtain⟨rk,hI,_,hr⟩:=hC.rk
  refine ze (ze (za (za (xn (wm (LW hC hS hr i ⟨i0,i1⟩ s) ?_)))))
  rintro⟨j,q⟩ ⟨rfl,hw⟩
  dsimp only
  have hw:Wk1 S s (tr l i) (tm l i) j:=hw
  have mem:∀ t∈tm l i,t.1∈vl l i:=λt ht=>ik.2 ⟨t,ht,rfl⟩
  refine zh (λe => ?_) λe => ?_
  ·have e:j = -1:=by simpa using e
   refine ze (ze (za (za (zi ⟨rfl,hC,?_⟩))))
   rcases B with⟨_,h1,M,_⟩ | ⟨v,h2,hv,hk,hM,hp,hm⟩
   ·exact .inl ⟨h1,M⟩
   ·have h1:=hm S hS
    have M:mx S v (tr l i) (tm l i)<=tr l i:=z2c _ _ (qH _) λt ht jX=>by
     rcases hw with hw | ⟨⟨u,hu,e'⟩,_⟩
     ·exact(hw.2 t ht).resolve_left (hk.free hC hs i0 i1 N hv (mem t ht) jX)
     ·have:=hC.vr i0 i1 (mem u hu)
      rw[e',e]at this
      exact absurd this.1 (xm)
    exact .inr (by show sk l o<sk l x; omega)
  ·have e:j ≠ -1:=by simpa using e
   obtain⟨⟨t,ht,htj⟩,hjs,wL,hmax⟩:=hw.resolve_left λk=>e k.1
   have hj:j∈vl l i:=htj▸mem t ht
   have Dm:=hC.vr i0 i1 hj
   have hbj:=hC.bc j Dm.1 Dm.2
   have T8:=hC.ol
   have hbl:=hC.bl
   have hVC:=hC.ac.vc (Z) (xw (d:=zb zq) i0 i1)
   have htm:(tm l i).length<=1000:=(hC.ac.2 _ (xw i0 i1)).1.2.2
   have hun:un n (s++vl l i)<un n s:=zkU (λu hu=>qJ _ hu) (qF _ hj) hjs Dm.1 Dm.2
   refine qw ⟨Dm.1,Z⟩ (zj ⟨rfl,Z⟩ (xn (wm (P:=λz=>∃ o1,z=((l,()),o1,y,s)/\o1.length=x.length/\(∀ k:Int,0<=k->k<l.length->nth o1 k di=if k=nth y j di then -1 else nth x k di)/\sk l o1=sk l x-if nth y j di = -1 then 0 else 5-tr l (nth y j di)) ?_ ?_)))
   ·refine zh (λe => ?_) λe => ?_
    ·have e:nth y j di ≠ -1:=by simpa using e
     obtain⟨b0,b1,b2⟩:=hbj.resolve_left e
     have hbi:nth y j di<x.length:=Z
     have hbx:0+(nth y j di).toNat<x.length:=Z
     refine qw ⟨b0,hbi⟩ (zj ⟨rfl,hbx⟩ (zj ⟨by rw[List.length_set],rfl,by rw[List.length_set]⟩ (ze (zj (by rw[List.length_set]) (za (zi ⟨_,rfl,by rw[List.length_set],λk k0 k1=>Ve b0 hbi k0,?_⟩))))))
     have:=CU l x (0+(nth y j di).toNat) (-1) (Z) (Z)
     rw[this,if_pos rfl,if_neg e,if_neg (show ¬ x.getD (0+(nth y j di).toNat) di = -1 by
      have:x.getD (0+(nth y j di).toNat) di=j:=by rw[Nat.zero_add]; exact b2
      rw[this]; omega),Nat.zero_add]
     show sk l x+0-(5-tr l (nth y j di))=_
     omega
    ·have e:nth y j di = -1:=by simpa using e
     exact ze (ze (za (za (zi ⟨x,rfl,rfl,λk k0 k1=>by rw[e,if_neg (Z)],by rw[if_pos e]; omega⟩))))
   ·rintro _ ⟨o1,rfl,hl1,he1,hp1⟩
    dsimp only
    have e2:∀ k:Int,0<=k->k<l.length->nth (o1.set (0+i.toNat) j) k di=if k=i then j else if k=nth y j di then -1 else nth x k di:=λk k0 k1=>by rw[Ve i0 (Z) k0,he1 k k0 k1]
    have e3:∀ v:Int,0<=v->nth (y.set (0+j.toNat) i) v di=if v=j then i else nth y v di:=λv v0=>Ve Dm.1 (Z) v0
    have hib:i≠nth y j di:=λk=>by
     rcases hbj with k' | ⟨_,_,k'⟩
     ·omega
     ·rw[<- k,N]at k'; omega
    have hp2:sk l (o1.set (0+i.toNat) j)=sk l o1+(5-tr l i):=by
     have:=CU l o1 (0+i.toNat) j (Z) (Z)
     rw[this,if_neg e,if_pos (show o1.getD (0+i.toNat) di = -1 by
      rw[Nat.zero_add]; exact(he1 i i0 i1).trans (by rw[if_neg hib,N])),Nat.zero_add]
     show _+(5-tr l i)-0=_
     omega
    have hsl:s.length+(tm l i).length<=4294967295:=Z
    refine qw ⟨i0,Z⟩ (zj ⟨rfl,Z⟩ (qw ⟨Dm.1,Z⟩ (zj ⟨rfl,Z⟩ (qw ⟨i0,i1⟩ (zj ⟨by rw[List.length_set],rfl,by rw[List.length_set]⟩ (zj ⟨by rw[List.length_set],rfl,by rw[List.length_set]⟩ (zj (by rw[List.length_set]) (zj (by rw[List.length_set]) (xn (wm (TV _ _ l _ _ s ?_ ?_) ?_))))))))))
    ·exact λt ht=>by
      have:=hVC.2.2 t ht
      exact⟨this.1,Int.lt_of_lt_of_le this.2 (Z)⟩
    ·exact hsl
    rintro _ rfl
    have hC2:=hC.step i0 i1 N hj (by rw[List.length_set]; omega) e2 (by rw[List.length_set]; omega) e3
    have zro:(0:Int)<=tr l i:=hVC.1
    have zrp:(4:Int) >= tr l i:=hVC.2.1
    refine ze (ze (za (za (zi ⟨⟨rfl,hC2,λu hu=>(zG.1 hu).elim (hs u) λk=>hC.vr i0 i1 k,?_,?_⟩,hun⟩))))
    ·show(s++vl l i).length+1000*un n (s++vl l i)<=_
     have:(vl l i).length<=1000:=by unfold vl vs; rw[List.length_map]; exact htm
     rw[List.length_append]; omega
    ·have hM:∃ h2:Int,tr l c<h2/\h2<=S j/\sk l x=sk l o+(if nth o i di = -1/\x=o/\i=c then 0 else tr l i-tr l c):=by
      rcases B with⟨h1,M,_,_⟩ | ⟨v,h2,hv,hk,hM,hp,hm⟩
      ·exact⟨S j,h1▸wL,qH _,by rw[if_pos ⟨M▸N,M,h1⟩,M]; omega⟩
      ·refine⟨h2,hM,zP (hm S hS) (z2c _ _ (qB wL) λt ht jX=>(hmax t ht).resolve_left (hk.free hC hs i0 i1 N hv (mem t ht) jX)),?_⟩
       rw[hp]
       split
       ·rename_i k; rw[k.2.2]; omega
       ·omega
     obtain⟨h2,hM,hMj,hpx⟩:=hM
     have hpx:sk l x=sk l o+tr l i-tr l c:=by
      rw[hpx]
      split
      ·rename_i k; rw[k.2.2]; omega
      ·omega
     by_cases e':nth y j di = -1
     ·rw[if_pos e']at hp1
      refine .inl ⟨e',?_⟩
      have:tr l c<=4:=(h.ac.vc (Z) (xw (d:=zb zq) hc.1 hc.2)).2.1
      show sk l o<sk l (o1.set (0+i.toNat) j)
      omega
     ·rw[if_neg e']at hp1
      obtain⟨b0,b1,b2⟩:=hbj.resolve_left e'
      have hjv:j∈vl l (nth y j di):=by
       rcases hC.oc _ b0 b1 with k | k
       ·rw[b2]at k; exact absurd k e
       ·rw[b2]at k; exact k.1
      refine .inr ⟨⟨b0,b1,by show nth _ (nth y j di) di = -1; rw[e2 _ b0 b1,if_neg (λk=>hib k.symm),if_pos rfl]⟩,.inr ⟨j,h2,hjv,TK.step hC hs i0 i1 N hj hjs e2 (B.imp (λk=>k.2.2.2) λ⟨v,_,hv,hk,_⟩=>⟨v,hv,hk⟩),hM,?_,λS' hS' => ?_⟩⟩
      ·show sk l (o1.set (0+i.toNat) j)=sk l o+tr l (nth y j di)-tr l c
       omega
      ·refine zP hMj (Int.le_of_eq ?_)
       rw[hS j Dm.1 Dm.2,if_neg e']
       refine Ub _ _ λt ht jX => ?_
       have hm:=ik.2 ⟨t,ht,rfl⟩
       have hv:=hC.vr b0 b1 hm
       exact(z8K hC hr hS e3 hS' _ t.1 hv.1 hv.2 (Nat.lt_succ_self _) (hr j Dm.1 Dm.2 e' t.1 hm jX)).symm
 ·have hi:i = -1:=by simpa using hi
  refine ze (ze (za (za (zi ⟨rfl,hC,?_⟩))))
  rcases B with⟨_,h1⟩ | ⟨⟨h0,_⟩,_⟩
  ·exact .inr h1
  ·omega
open T PL
def Sb(a r:List Int):Prop:=r.length=a.length/\∀ x∈r,x∈a
def ins(l:List vI)(a:List Int):Prop:=∀ x∈a,0<=x/\x<l.length
theorem oi(a:List Int):Sb a a:=⟨rfl,λ_ h=>h⟩
theorem Ti(a r:List Int)(h:Sb a r):r.length=a.length:=h.1
theorem z96(a b r:List Int)(h:Sb a b)(k:Sb b r):Sb a r:=⟨k.1.trans h.1,λx N=>h.2 x (k.2 x N)⟩
theorem Uk{a:List Int}{i:Nat}{d:Int}(h:i<a.length):wi a i d∈a:=by
 unfold wi
 rw[zA,zJ h]
 exact zO h
theorem zdR(a r:List Int)(i j:Nat)(d e:Int)(h:Sb a r)(hi:i<r.length)(hj:j<r.length):Sb a ((r.set i (wi r j d)).set j (wi r i e)):=by
 refine⟨by simpa using h.1,λx N=>h.2 x ?_⟩
 rcases zI N with k | rfl
 ·rcases zI k with k | rfl
  ·exact k
  ·exact Uk hj
 ·exact Uk hi
theorem X3(l:List vI)(a r:List Int)(h:Sb a r)(k:ins l a):ins l r:=λx N=>k x (h.2 x N)
theorem U2(l:List vI)(a:List Int)(i:Nat)(h:ins l a)(hi:i<a.length):0<=wi a i (zb (.int .i64))/\wi a i (zb (.int .i64))<l.length:=h _ (Uk hi)
theorem YO(x:Int)(h:0<=x)(h':x<=2000000):qo (jj .u64 (wh x) 1)=x / 2:=by
 have e:wh x=x:=by rw[FH]; omega
 rw[e,show jj .u64 x 1=x / 2 from ?_,qv (Z) (Z)]
 show Int.fdiv x (2 ^ 1)=_
 rw[Int.fdiv_eq_ediv_of_nonneg _ (xm)]
 rfl
theorem lg{p:Prop} (h:p:=by
 intros
 repeat' (with_reducible first
  | refine zi ?_
  | refine zh (λ_ => ?_) (λ_ => ?_)
  | refine za ?_
  | refine ze ?_
  | refine uo ?_ ?_
  | refine qw ?_ ?_
  | refine vY ?_ ?_
  | refine vk ?_ ?_
  | refine zj ?_ ?_
  | refine vQ (λ_ _ => ?_) (λ_ _ => ?_)
  | refine z8 ?_ (λ_ _ => ?_)
  | refine vA ?_ (λ_ _ => ?_)
  | refine xn ?_
  | dsimp only)
 all_goals grind [xe,uN,j3,List.length_set,oi,Ti,z96,zdR,X3,U2,YO]):p:=h
instance (b c:Int) (l:List vI):Sp (wu b c l) (0<=b/\b<l.length/\0<=c/\c<l.length) (λ_=>True):=⟨λh=>by unfold wu cmp_Compare_int cmp_isNaN_int; exact lg⟩
section
variable (l:List vI)
instance (d:Nat×Nat) (c e:Int) (a:List Int):Sp (va d c e (λz0 z1=>wu z0 z1 l) a) (d=(0,a.length)/\a.length<=1000/\ins l a/\0<=c/\c<=100000/\e<=a.length) (λr=>Sb a r):=⟨λ⟨h0,h1,M,h3,h4,h5⟩=>by
 subst h0
 have L:∀ (i:Int) (x:List Int),Sp (uH c e (λz0 z1=>wu z0 z1 l) i ((0,a.length),(i,x))) (Sb a x/\c<=i/\i<a.length) (λr=>r.1=(0,a.length)/\Sb a r.2):=λi x=>⟨λh=>by
  unfold uH
  refine vX (λ(p,j,b)=>p=(0,a.length)/\c<=j/\j<a.length/\Sb a b) (λ(_,j,_)=>(j-c).toNat) ⟨rfl,h.2.1,h.2.2,h.1⟩ ?_
  rintro⟨p,j,b⟩ ⟨rfl,hj,MK,I⟩
  have R:=I.1
  have hn:∀ k:Nat,k<a.length->0<=wi b k (zb (.int .i64))/\wi b k (zb (.int .i64))<l.length:=λk hk=>U2 l b k (X3 l a b I M) (Z)
  unfold uJ
  clear h M
  exact lg⟩
 unfold va kY
 refine za (za (xn (wm (P:=λr=>Sb a r) ?_ λr hr=>za (zi hr))))
 refine vX (λ(p,j,b)=>p=(0,a.length)/\c<=j/\j<=200000/\Sb a b) (λ(_,j,_)=>(e-j).toNat) ⟨rfl,by grind [j3],by grind [j3],oi a⟩ ?_
 rintro⟨p,j,b⟩ ⟨rfl,hj,MK,I⟩
 have R:=I.1
 unfold uI
 exact lg⟩
instance (d:Nat×Nat) (x y n:Int) (g:Int->Int->T Int) (a:List Int):Sp (wZ d x y n g a) (d=(0,a.length)/\a.length<=1000/\0<=x/\0<=y/\0<=n/\x+n<=a.length/\y+n<=a.length) (λr=>Sb a r):=⟨λ⟨h0,h⟩=>by
 subst h0
 unfold wZ gJ
 refine za (za (xn (wm (P:=λr=>Sb a r) ?_ λr hr=>za (zi hr))))
 refine vX (λ(p,j,b)=>p=(0,a.length)/\0<=j/\j<=n/\Sb a b) (λ(_,j,_)=>(n-j).toNat) ⟨rfl,Z,Z,oi a⟩ ?_
 rintro⟨p,j,b⟩ ⟨rfl,hj,MK,I⟩
 have R:=I.1
 unfold js
 exact lg⟩
instance (d:Nat×Nat) (x m y:Int) (g:Int->Int->T Int) (a:List Int):Sp (jq d x m y g a) (d=(0,a.length)/\a.length<=1000/\0<=x/\x<m/\m<y/\y<=a.length) (λr=>Sb a r):=⟨λ⟨h0,h⟩=>by
 subst h0
 have L:∀ (i j:Int),Sp (kA m g ((0,a.length),(i,(j,a)))) (0<i/\i<=m/\0<j/\j+m<=a.length) (λr=>r.1=(0,a.length)/\Sb a r.2.2/\0<r.2.1/\r.2.1<=m/\r.2.1+m<=a.length):=λi j=>⟨λk=>by
  unfold kA
  refine vX (λ(p,i,j,b)=>p=(0,a.length)/\0<i/\i<=m/\0<j/\j+m<=a.length/\Sb a b) (λ(_,i,j,_)=>(i+j).toNat) ⟨rfl,k.1,k.2.1,k.2.2.1,k.2.2.2,oi a⟩ ?_
  rintro⟨p,i,j,b⟩ ⟨rfl,hi,Kv,hj,MK,I⟩
  clear k
  have R:=I.1
  unfold kB
  exact lg⟩
 unfold jq
 exact lg⟩
end
open T PL
section
variable (l:List vI)
instance (g:(Nat×Nat)->Int->Int->Int->(List vI)->(List Int)->T (List Int)) (f i j:Int) (d:Nat×Nat) (a:List Int):Sp (u7 g f l (d,(i,(j,a)))) (d=(0,a.length)/\a.length<=1000/\ins l a/\0<=i/\i<=j/\j<=a.length/\0<=f/\f<a.length) (λr=>r.1=d/\i<=r.2.1/\r.2.1<=j/\r.2.2=a):=⟨λ⟨h0,h1,M,h3,h4,h5⟩=>by
 subst h0
 unfold u7
 refine vX (λ(p,x,y,b)=>p=(0,a.length)/\i<=x/\x<=y/\y<=j/\b=a) (λ(_,x,y,_)=>(y-x).toNat) ⟨rfl,Z,h4,Z,rfl⟩ ?_
 rintro⟨p,x,y,b⟩ ⟨rfl,N,hy,hj,rfl⟩
 have hm:=YO (x+y) (Z) (Z)
 have hw:qo (x+y)=x+y:=qv (Z) (Z)
 have hn:∀ k:Nat,k<b.length->0<=wi b k (zb (.int .i64))/\wi b k (zb (.int .i64))<l.length:=λk hk=>U2 l b k M hk
 unfold ue
 clear M
 dsimp only
 rw[hw,hm]
 exact lg⟩
instance (g:(Nat×Nat)->Int->Int->Int->(List vI)->(List Int)->T (List Int)) (f i j:Int) (d:Nat×Nat) (a:List Int):Sp (ub g f l (d,(i,(j,a)))) (d=(0,a.length)/\a.length<=1000/\ins l a/\0<=i/\i<=j/\j<=a.length/\0<=f/\f<a.length) (λr=>r.1=d/\i<=r.2.1/\r.2.1<=j/\r.2.2=a):=⟨λ⟨h0,h1,M,h3,h4,h5⟩=>by
 subst h0
 unfold ub
 refine vX (λ(p,x,y,b)=>p=(0,a.length)/\i<=x/\x<=y/\y<=j/\b=a) (λ(_,x,y,_)=>(y-x).toNat) ⟨rfl,Z,h4,Z,rfl⟩ ?_
 rintro⟨p,x,y,b⟩ ⟨rfl,N,hy,hj,rfl⟩
 have hm:=YO (x+y) (Z) (Z)
 have hw:qo (x+y)=x+y:=qv (Z) (Z)
 have hn:∀ k:Nat,k<b.length->0<=wi b k (zb (.int .i64))/\wi b k (zb (.int .i64))<l.length:=λk hk=>U2 l b k M hk
 unfold ug
 clear M
 dsimp only
 rw[hw,hm]
 exact lg⟩
instance (g:(Nat×Nat)->Int->Int->Int->(List vI)->(List Int)->T (List Int)) (x1 x2 x3 m n f i j:Int) (d:Nat×Nat) (a:List Int):Sp (ud g x1 x2 x3 l m n f (d,(i,(j,a)))) (d=(0,a.length)/\a.length<=1000/\ins l a/\0<=i/\i<=j/\j<=a.length/\j-1<=f/\f-i<a.length) (λr=>r.1=d/\i<=r.2.1/\r.2.1<=j/\r.2.2=a):=⟨λ⟨h0,h1,M,h3,h4,h5⟩=>by
 subst h0
 unfold ud
 refine vX (λ(p,x,y,b)=>p=(0,a.length)/\i<=x/\x<=y/\y<=j/\b=a) (λ(_,x,y,_)=>(y-x).toNat) ⟨rfl,Z,h4,Z,rfl⟩ ?_
 rintro⟨p,x,y,b⟩ ⟨rfl,N,hy,hj,rfl⟩
 have hm:=YO (x+y) (Z) (Z)
 have hw:qo (x+y)=x+y:=qv (Z) (Z)
 have hn:∀ k:Nat,k<b.length->0<=wi b k (zb (.int .i64))/\wi b k (zb (.int .i64))<l.length:=λk hk=>U2 l b k M hk
 unfold ui
 clear M
 dsimp only
 rw[hw,hm]
 exact lg⟩
instance (g:(Nat×Nat)->Int->Int->Int->(List vI)->(List Int)->T (List Int)) (f i:Int) (d:Nat×Nat) (a:List Int):Sp (ua g f (d,(i,a))) (d=(0,a.length)/\a.length<=1000/\0<=i/\i<=a.length/\0<=f/\f<=a.length) (λr=>Sb a r):=⟨λ⟨h0,h⟩=>by
 subst h0
 unfold ua
 refine vX (λ(p,x,b)=>p=(0,a.length)/\i<=x/\x<=a.length/\Sb a b) (λ(_,x,_)=>(f-x).toNat) ⟨rfl,Z,Z,oi a⟩ ?_
 rintro⟨p,x,b⟩ ⟨rfl,N,hj,I⟩
 have R:=I.1
 unfold uf
 exact lg⟩
instance (g:(Nat×Nat)->Int->Int->Int->(List vI)->(List Int)->T (List Int)) (f i:Int) (d:Nat×Nat) (a:List Int):Sp (uc g f (d,(i,a))) (d=(0,a.length)/\a.length<=1000/\0<=i/\i<a.length/\0<=f/\f<=a.length) (λr=>Sb a r):=⟨λ⟨h0,h⟩=>by
 subst h0
 unfold uc
 refine vX (λ(p,x,b)=>p=(0,a.length)/\0<=x/\x<a.length/\Sb a b) (λ(_,x,_)=>(x-f).toNat) ⟨rfl,Z,Z,oi a⟩ ?_
 rintro⟨p,x,b⟩ ⟨rfl,N,hj,I⟩
 have R:=I.1
 unfold uh
 exact lg⟩
end
open T PL
section
variable (l:List vI)
instance (d:Nat×Nat) (x m y:Int) (a:List Int):Sp (vP d x m y l a) (d=(0,a.length)/\a.length<=1000/\ins l a/\0<=x/\x<m/\m<y/\y<=a.length) (λr=>Sb a r):=⟨λ⟨h0,h1,M,h3⟩=>by
 subst h0
 unfold vP
 refine se (x:=((0,a.length),x,m,y,l,a)) (σ:=(Nat×Nat)×Int×Int×Int×List vI×List Int) (ρ:=List Int) (λ(d,x,m,y,q,a)=>(d=(0,a.length)/\q=l)/\a.length<=1000/\ins l a/\0<=x/\x<m/\m<y/\y<=a.length) (λ(_,x,_,y,_)=>(y-x).toNat) (λ(_,_,_,_,_,a) r=>Sb a r) ?_ ?_ ⟨⟨rfl,rfl⟩,h1,M,h3⟩
 ·intro g g' hg z
  unfold vx u7 ua ub uc ud ue uf ug uh ui
  exact mono
 ·rename_i N
  clear N h1 M h3 x m y a
  rintro⟨d,x,m,y,q,a⟩ ⟨⟨rfl,rfl⟩,h1,M,h3,h4,h5,h6⟩ g hg
  dsimp only at h1 M h3 h4 h5 h6 hg ⊢
  unfold vx
  have hm:=YO (x+y) (Z) (Z)
  have hw:qo (x+y)=x+y:=qv (Z) (Z)
  have H:∀ (d:Nat×Nat) (x' m' y':Int) (b:List Int),Sp (g (d,x',m',y',q,b)) (d=(0,a.length)/\Sb a b/\0<=x'/\x'<m'/\m'<y'/\y'<=a.length/\y'-x'<y-x) (λr=>Sb a r):=λd x' m' y' b=>⟨λ⟨k0,k1,k⟩=>wm (hg (d,x',m',y',q,b) ⟨⟨by rw[k0,k1.1],rfl⟩,by rw[k1.1]; exact h1,X3 q a b k1 M,k.1,k.2.1,k.2.2.1,by rw[k1.1]; exact k.2.2.2.1⟩ (by show(y'-x').toNat<(y-x).toNat; omega)) λr hr=>z96 a b r k1 hr⟩
  clear hg
  dsimp only
  rw[hw,hm]
  clear hm hw
  refine zh (λe => ?_) λe=>zh (λe' => ?_) λe' => ?_
  ·clear H; exact lg
  ·clear H; exact lg
  ·refine zj (xm) (za (za (z8 ?_ ?_)))
   ·clear H; cases I:decide ((x+y) / 2<m)<;>grind [j3,oi]
   ·rintro⟨p,i,b⟩ ⟨rfl,hi,hj,I⟩
    have I:b=a:=I
    subst I
    dsimp only at hi hj ⊢
    have Kv:x<=i/\i<=(x+y) / 2+m-(x+y) / 2/\(x+y) / 2+m-i<=y/\(i<m/\m<(x+y) / 2+m-i->True):=by
     clear H
     cases I:decide ((x+y) / 2<m)<;>grind [j3]
    have hr:=oi b
    clear hi hj
    exact lg⟩
instance (d:Nat×Nat) (c:Int) (a:List Int):Sp (jr d c l a) (d=(0,a.length)/\a.length<=1000/\ins l a/\c=a.length) (λr=>Sb a r):=⟨λ⟨h0,h1,M,h3⟩=>by
 subst h0 h3
 have L0:∀ x y,Sp (kC (a.length:Int) l 20 ((0,a.length),(x,(y,a)))) (x=0/\y=20) (λr=>r.1=(0,a.length)/\0<=r.2.1/\r.2.1<=2000/\Sb a r.2.2):=λx y=>⟨λ⟨k,k'⟩=>by
  subst k k'
  unfold kC
  refine vX (λ(p,i,j,b)=>p=(0,a.length)/\0<=i/\i<=2000/\0<=j/\j<=2000/\Sb a b) (λ(_,_,j,_)=>(2000-j).toNat) ⟨rfl,xm,xm,xm,xm,oi a⟩ ?_
  rintro⟨p,i,j,b⟩ ⟨rfl,hi,Kv,hj,MK,I⟩
  have R:=I.1
  have J6:=X3 l a b I M
  unfold kF
  exact lg⟩
 have L2:∀ s x y b,Sp (kE (a.length:Int) l s ((0,a.length),(x,(y,b)))) (x=0/\y=2*s/\0<s/\s<=2000/\Sb a b) (λr=>r.1=(0,a.length)/\0<=r.2.1/\r.2.1<=10000/\Sb a r.2.2):=λs x y b=>⟨λ⟨k,k',k1,k2,k3⟩=>by
  subst k k'
  unfold kE
  refine vX (λ(p,i,j,b)=>p=(0,a.length)/\0<=i/\i<=10000/\j=i+2*s/\j<=10000/\Sb a b) (λ(_,_,j,_)=>(10000-j).toNat) ⟨rfl,xm,xm,Z,Z,k3⟩ ?_
  rintro⟨p,i,j,b⟩ ⟨rfl,hi,Kv,hj,MK,I⟩
  have R:=I.1
  have J6:=X3 l a b I M
  unfold kH
  clear k3
  exact lg⟩
 have L1:∀ d x b,Sp (kD (a.length:Int) l (d,(x,b))) (d=(0,a.length)/\x=20/\Sb a b) (λr=>Sb a r):=λd x b=>⟨λ⟨k0,k,k'⟩=>by
  subst k0 k
  unfold kD
  refine vX (λ(p,i,b)=>p=(0,a.length)/\0<i/\i<=4000/\Sb a b) (λ(_,i,_)=>(4000-i).toNat) ⟨rfl,xm,xm,k'⟩ ?_
  rintro⟨p,i,b⟩ ⟨rfl,hi,Kv,I⟩
  have R:=I.1
  have J6:=λb I=>X3 l a b I M
  unfold kG
  clear k'
  exact lg⟩
 have J6:=λb I=>X3 l a b I M
 have R:=λb=>Ti a b
 unfold jr
 exact lg⟩
instance (d:Nat×Nat) (a:List Int):Sp (uw d l a) (d=(0,a.length)/\a.length<=1000/\ins l a) (λr=>Sb a r):=⟨λh=>by
 unfold uw
 obtain⟨rfl,h⟩:=h
 exact lg⟩
end
open T PL
theorem znI:∀ k:Nat,k<65->(mG (wh 1) (wh k)).wp λr=>r=(0,(k:Int)):=by
 unfold mG nS
 intro k hk
 refine xn (zj (xm) (zj (xm) (zj (xm) (zj (xm) (zj (xm) (zi (zi ?_)))))))
 revert k
 decide +kernel
theorem zcT(k:Nat)(h:1<=k)(h':k<=64):(yk [-1] k).wp λr=>r=qK k (-1):=by
 unfold yk
 refine wM (qz) (xn (wm (znI k (Z)) ?_))
 rintro _ rfl
 have e1:qo (k:Int)=k:=qv (Z) (Z)
 dsimp only
 rw[e1,zS]
 refine wM (by simp; omega) (zj ⟨Z,Z,Z,Z⟩ (zj ⟨rfl,qz⟩ (uo (by simp[yn]; omega) (xn ?_))))
 refine wm (P:=λr=>r=qK k (-1)) ?_ λr hr=>ze (za (zi hr))
 unfold dV
 refine vX (σ:=Int×List Int) (λ(b,a)=>a.length=k/\1<=b/\b<=k/\∀ x∈a.take b.toNat,x = -1) (λ(b,_)=>k-b.toNat) ⟨by simp[yn]; omega,by simp[CE]; omega,by simp[CE]; omega,?_⟩ ?_
 ·have:CE k 1=1:=by unfold CE; omega
  simp only[List.length_singleton,this,yn]
  intro x N
  simpa[List.take_append,zL (show[(-1:Int)].length<=k by simpa using h)]using N
 rintro⟨b,a⟩ ⟨R,b0,b1,N⟩
 obtain⟨j,rfl⟩:=X (show 0<=b by omega)
 unfold gn
 dsimp only
 simp only[zS,Int.toNat_zero,Nat.zero_add,Nat.sub_zero,List.drop_zero]at N ⊢
 refine zh (λe => ?_) λe => ?_
 ·have e:=uE e
  have ha:(yn j (a.length-j) a (a.take j)).length=a.length:=by unfold yn; simp; omega
  have hm:CE (a.length-j) (a.take j).length=min (a.length-j) j:=by unfold CE; rw[zH]; omega
  have hw:qo ((j:Int)+(CE (a.length-j) (a.take j).length:Nat))=((j+min (a.length-j) j:Nat):Int):=by rw[hm,qv (Z) (Z)]; omega
  refine zj ⟨Z,Z,Z⟩ (zj ⟨Z,Z,Z⟩ (za (zj ⟨rfl,Z⟩ (uo ha.symm (zi ?_)))))
  rw[hw]
  refine⟨⟨ha.trans R,Z,Z,λx GJ => ?_⟩,by simp only[zS]; omega⟩
  rw[zS]at GJ
  have:x∈a.take j:=by
   unfold yn at GJ
   rw[List.take_append_of_le_length (by simp; omega)]at GJ
   rcases zG.1 (zF GJ)with k | k
   ·exact k
   ·exact zF k
  exact N x this
 ·have e:=gZ e
  refine ze (za (zi ?_))
  rw[zL (Z)]at N
  exact List.eq_replicate_iff.2 ⟨R,N⟩
instance (t:Term) (v:Int):Sp (bN t v) True (λr=>r=true↔t.1=v):=⟨λ_=>by unfold bN; exact zi (qz)⟩
instance (c:vI) (v:Int):Sp (XH c v) (c.2.1.length<=1000) (λr=>r=true↔v∈vs c):=⟨λh=>by
 unfold XH
 refine z8 ⟨Z,λ_ _=>trivial⟩ λr hr=>zi ?_
 rw[ik]
 rcases hr with⟨rfl,k⟩ | ⟨rfl,x,N,k⟩
 ·exact⟨nofun,λ⟨t,ht,e⟩=>(k t ht).2 e⟩
 ·exact⟨λ_=>⟨x,N,k.1 rfl⟩,λ_=>rfl⟩⟩
def Cw(l:List vI):Prop:=l.length<=1000/\∀ c∈l,cw c
instance (l:List vI) (o:List Int) (n:Int):Sp (bh l o n) (Cw l/\o.length<=1000000) (λr=>match r with | .inl (e,f,x,y)=>f=(l,())/\x=o/\(e=true->∃ k:Nat,n=k/\Ch k l o y) | .inr e=>e=false):=⟨λ⟨h,ho⟩=>by
 unfold bh
 refine zh (λ_=>zi rfl) λe => ?_
 simp only[Bool.or_eq_false_iff,decide_eq_false_iff_not,bne_eq_false_iff_eq]at e
 obtain⟨k,rfl⟩:=X (show 0<=n by omega)
 refine z8 (Z) λo' e1 => ?_
 have e1:o'=o:=e1
 subst o'
 refine xn (wm (zcT k (Z) (Z)) λ_ e1 => ?_)
 subst e1
 refine za (za (ze (ze (xn ?_))))
 refine wm (P:=λz=>match z with | .inl (x,y,f)=>f=(l,())/\x=o/\((k:Int)=k/\(∀ c∈l,(cT c k).run=some true)/\y.length=k/\(∀ i:Int,0<=i->i<l.length->nth o i di = -1\/(nth o i di∈vs (nth l i (zb zq))/\nth y (nth o i di) di=i))/\∀ v:Int,0<=v->v<k->nth y v di = -1\/(0<=nth y v di/\nth y v di<l.length/\nth o (nth y v di) di=v)) | .inr (e,_)=>e=false) ?_ ?_
 ·unfold sy
  refine vX (σ:=Int×List Int×List Int×List vI×Unit) (λ(d,x,y,f)=>f=(l,())/\x=o/\0<=d/\d<=l.length/\(∀ i:Int,0<=i->i<d->(cT (nth l i (zb zq)) k).run=some true)/\y.length=k/\(∀ i:Int,0<=i->i<d->nth o i di = -1\/(nth o i di∈vs (nth l i (zb zq))/\nth y (nth o i di) di=i))/\∀ v:Int,0<=v->v<k->nth y v di = -1\/(0<=nth y v di/\nth y v di<d/\nth o (nth y v di) di=v))
   (λ(d,_)=>(l.length-d).toNat) ⟨rfl,rfl,Z,Z,Z,qz,Z,λv v0 v1=>.inl ?_⟩ ?_
  ·unfold nth
   rw[zA,List.getElem?_replicate,if_pos (Z)]; rfl
  rintro⟨d,x,y,f⟩ ⟨rfl,rfl,d0,d1,hA,hy,hoc,hbc⟩
  unfold fH
  simp only[rJ]
  refine zh (λJ => ?_) λJ => ?_
  ·have J:=uE J
   have hw:qo (d+1)=d+1:=qv (Z) (by have:=h.1; omega)
   have hcw:=h.2 _ (xw (d:=zb zq) d0 J)
   refine qw ⟨d0,J⟩ (xn ?_)
   obtain⟨r,hr,hV⟩:=T.mn.1 (Sp.sp (t:=cT (nth l d (zb zq)) k) ⟨Z,hcw.1,hcw.2.1,by have:=hcw.2.2; omega⟩)
   refine bF hr (zh (λe=>za (za (ze (ze (zi rfl))))) λe => ?_)
   have hrt:r=true:=by simpa using e
   subst hrt
   have hV:=hV rfl
   have hA':∀ i:Int,0<=i->i<d+1->(cT (nth l i (zb zq)) k).run=some true:=λi i0 i1=>by
    by_cases e:i=d
    ·rw[e]; exact hr
    ·exact hA i i0 (Z)
   refine qw ⟨d0,Z⟩ (zh (λe => ?_) λe => ?_)
   ·have e:nth x d di = -1:=by simpa using e
    refine za (za (ze (ze (zi ?_))))
    rw[hw]
    refine⟨⟨rfl,rfl,Z,Z,hA',hy,λi i0 i1 => ?_,λv v0 v1=>(hbc v v0 v1).imp_right λ⟨a,b,c⟩=>⟨a,Int.lt_trans b (Int.lt_succ d),c⟩⟩,by simp only; omega⟩
    by_cases e':i=d
    ·rw[e']; exact .inl e
    ·exact hoc i i0 (Z)
   ·have e:nth x d di ≠ -1:=by simpa using e
    refine xn (wm (P:=λz=>z.2=(x,y,(l,()),nth l d (zb zq))/\(z.1=false->nth x d di∈vs (nth l d (zb zq))/\nth y (nth x d di) di = -1)) ?_ ?_)
    ·refine z8 (by exact hcw.2.2) λb I=>zh (λe=>za (za (ze (ze (zi ⟨rfl,nofun⟩))))) λe => ?_
     have I:=I.1 (by simpa using e)
     obtain⟨t,ht,et⟩:=ik.1 I
     have hv:=hV.2.2 t ht
     rw[et]at hv
     have hv1:nth x d di<y.length:=by rw[hy]; exact hv.2
     have hv0:0<=nth x d di:=hv.1
     have EG:0+(nth x d di).toNat<y.length:=Z
     exact qw ⟨hv0,hv1⟩ (zj ⟨rfl,EG⟩ (za (za (ze (ze (zi ⟨rfl,λq=>⟨I,by simpa using q⟩⟩))))))
    ·rintro⟨b,_⟩ ⟨rfl,I⟩
     refine zh (λ_=>za (za (ze (ze (zi rfl))))) λe' => ?_
     obtain⟨I,Kb⟩:=I e'
     obtain⟨t,ht,et⟩:=ik.1 I
     have hv:=hV.2.2 t ht
     rw[et]at hv
     have hv0:0<=nth x d di:=hv.1
     have hv1:nth x d di<y.length:=by rw[hy]; exact hv.2
     have EG:0+(nth x d di).toNat<y.length:=Z
     refine qw ⟨hv0,hv1⟩ (zj ⟨rfl,EG⟩ (za (zj (by rw[List.length_set]) (ze (zj ⟨by rw[List.length_set],rfl,by rw[List.length_set]⟩ (zi ?_))))))
     rw[hw]
     have vU:∀ v:Int,0<=v->nth (y.set (0+(nth x d di).toNat) d) v di=if v=nth x d di then d else nth y v di:=λv v0=>Ve hv0 hv1 v0
     refine⟨⟨rfl,rfl,Z,Z,hA',by rw[List.length_set]; exact hy,λi i0 i1 => ?_,λv v0 v1 => ?_⟩,by simp only; omega⟩
     ·by_cases e':i=d
      ·refine .inr ?_
       rw[e']
       exact⟨I,(vU _ hv0).trans (if_pos rfl)⟩
      ·refine(hoc i i0 (Z)).imp_right λ⟨a,c⟩=>⟨a,?_⟩
       obtain⟨t',ht',et'⟩:=ik.1 a
       have hV':=Gw (Sp.sp (t:=cT (nth l i (zb zq)) k) (by
        have hcw:=h.2 _ (xw (l:=l) (i:=i) (d:=zb zq) i0 (Z))
        exact⟨Z,hcw.1,hcw.2.1,by have:=hcw.2.2; omega⟩)) (hA i i0 (Z)) rfl
       have h0:=(hV'.2.2 t' ht').1
       rw[et']at h0
       refine(vU _ h0).trans ?_
       rw[if_neg]
       ·exact c
       ·intro q; rw[q,Kb]at c; omega
     ·have:=vU v v0
      by_cases e':v=nth x d di
      ·rw[if_pos e']at this
       refine .inr ?_
       rw[this]; exact⟨d0,Z,e'.symm⟩
      ·rw[if_neg e']at this
       rw[this]
       exact(hbc v v0 v1).imp_right λ⟨a,b,c⟩=>⟨a,Z,c⟩
  ·have J:=gZ J
   have Eu:d=l.length:=Z
   subst Eu
   refine za (za (ze (ze (zi ⟨rfl,rfl,trivial,λc hc => ?_,hy,hoc,hbc⟩))))
   obtain⟨i,hi,rfl⟩:=zX hc
   have:=hA i (Z) (Z)
   simpa[nth,hi]using this
 ·rintro(⟨x,y,f⟩ | ⟨b,_⟩) hz
  ·obtain⟨rfl,rfl,_,hA,hy,hoc,hbc⟩:=hz
   have hAc:Ac k l:=⟨h.1,λc hc=>⟨h.2 c hc,hA c hc⟩⟩
   refine z8 ⟨Z,Z,hAc⟩ λr hr=>ze (ze (za (za (zi ⟨rfl,rfl,λe=>⟨k,rfl,hAc,Z,Z,hr e,Z,hy,hoc,hbc⟩⟩))))
  ·exact zi hz⟩
open T PL
instance (a b:List Int):Sp (kX a b) (a.length<=1000000) (λr=>r=false->a≠b):=⟨λh=>by
 unfold kX iV
 refine zh (λe=>zi λ_ k=>by rw[k]at e; simp at e) λe => ?_
 have e:(a.length:Int)=b.length:=by simpa using e
 refine xn (wm (P:=λz=>z.elim (λ_=>True) λr=>r=false->a≠b) ?_ λz hz => ?_)
 ·refine vX (σ:=Int) (λi=>0<=i/\i<=a.length) (λi=>(a.length-i).toNat) ⟨Z,Z⟩ λi hi => ?_
  unfold c8
  refine zh (λJ => ?_) λJ=>zi trivial
  have J:=uE J
  have hw:qo (i+1)=i+1:=qv (Z) (Z)
  refine qw ⟨hi.1,J⟩ (qw ⟨hi.1,Z⟩ (zh (λk=>zi λ_ q => ?_) λk=>zi ?_))
  ·rw[q]at k; simp at k
  ·rw[hw]; exact⟨⟨Z,Z⟩,Z⟩
 ·rcases z with z | z
  ·exact zi nofun
  ·exact zi hz⟩
theorem cE{α:Type}(a:List α):zQ 0 (zK (0+a.length) a)=a:=qz
instance (l:List vI) (o:List Int) (n:Int):Sp (oq l o n) (Cw l/\o.length<=1000000) (λr=>(r.2=false->r.1=o)/\(r.2=true->∃ (k:Nat) (y:List Int),n=k/\Ch k l r.1 y)):=⟨λ⟨h,ho⟩=>by
 unfold oq
 have zel:=h.1
 refine z8 ⟨h,ho⟩ λz hz => ?_
 rcases z with⟨e,f,x,y⟩ | e
 ·obtain⟨rfl,rfl,hC0⟩:=hz
  refine zh (λk=>z8 (Z) λr hr=>zi ⟨λ_=>hr,nofun⟩) λk => ?_
  obtain⟨n,rfl,hC⟩:=hC0 (by simpa using k)
  clear hC0
  refine zj ⟨rfl,rfl,rfl⟩ (ze (ze (za (za (zj rfl (xn (wm (P:=λz=>∃ a,z=((l,()),x,y,a)/\ins l a/\a.length<=1000) ?_ ?_)))))))
  ·unfold Qi
   refine vX (σ:=Int×(List vI×Unit)×List Int×List Int×List Int) (λ(d,p,b,c,a)=>(p=(l,())/\b=x/\c=y)/\0<=d/\d<=l.length/\a.length=d.toNat/\ins l a) (λ(d,_)=>(l.length-d).toNat) ⟨⟨rfl,rfl,rfl⟩,Z,Z,rfl,nofun⟩ ?_
   rintro⟨d,p,b,c,a⟩ ⟨⟨rfl,rfl,rfl⟩,d0,d1,R,hi⟩
   unfold nI
   refine zh (λJ => ?_) λJ => ?_
   ·have J:=uE J
    have hw:qo (d+1)=d+1:=qv (Z) (Z)
    refine vY (Z) (zj ⟨qz,rfl,qz⟩ (ze (ze (za (za (zj (qz) (zi ?_)))))))
    rw[hw]
    refine⟨⟨⟨rfl,rfl,rfl⟩,Z,Z,?_,λu hu => ?_⟩,by simp only; omega⟩
    ·show(a++[d]).length=(d+1).toNat
     rw[List.length_append,List.length_singleton]; omega
    ·rcases zG.1 hu with hu | hu
     ·exact hi u hu
     ·rw[zE.1 hu]; exact⟨d0,J⟩
   ·exact ze (ze (ze (za (za (za (zi ⟨a,rfl,hi,Z⟩))))))
  ·rintro _ ⟨a,rfl,hi,Ka⟩
   refine za (za (z8 ⟨rfl,Ka,hi⟩ λg hg => ?_))
   have T1:=hg.1
   refine zj ⟨T1.symm,rfl,T1.symm⟩ (ze (ze (za (za (za (xn (wm (P:=λz=>∃ o b:List Int,z=((l,()),o,b,g)/\Ch n l o b) ?_ ?_)))))))
   ·have hgi:=X3 l a g hg hi
    have hB:=z2G l
    have hV:∀ c∈l,0<=c.1/\c.1<=4:=λc hc=>by have:=hC.ac.vc (by have:=hC.n64; omega) hc; exact⟨this.1,this.2.1⟩
    unfold Qj
    refine vX (σ:=(List Int×Bool)×(List vI×Unit)×List Int×List Int×List Int) (λ(_,p,o,b,a)=>p=(l,())/\a=g/\Ch n l o b) (λ(q,_,o,_,_)=>2*(5*l.length-sk l o).toNat+if q.2=true/\q.1=o then 0 else 1) ⟨rfl,rfl,hC⟩ ?_
    rintro⟨q,p,o,b,a⟩ ⟨rfl,rfl,hC'⟩
    unfold nJ
    have T8:=hC'.ol
    refine xn (wm (P:=λz=>∃ w:Bool,z=(w,(l,()),o,b,a)/\(w=true->¬ (q.2=true/\q.1=o))) ?_ ?_)
    ·refine zh (λk=>ze (ze (ze (za (za (za (zi ⟨true,rfl,λ_ k' => ?_⟩))))))) λk=>za (xn ?_)
     ·rw[k'.1]at k; cases k
     ·rw[cE]
      by_cases hq:q.1.length=o.length
      ·exact vA (Z) λw hw=>ze (ze (ze (za (za (za (zi ⟨!w,rfl,λe k'=>hw (by simpa using e) k'.2⟩))))))
      ·unfold kX
       exact uy (by rw[bne_iff_ne]; omega) (zi (ze (ze (ze (za (za (za (zi ⟨true,rfl,λ_ k'=>hq (by rw[k'.2])⟩))))))))
    ·rintro _ ⟨w,rfl,hw⟩
     dsimp only
     refine zh (λk => ?_) λk=>ze (ze (za (za (za (zi ⟨o,b,rfl,hC'⟩)))))
     rw[cE]
     refine za (zj (Z) (ze (ze (ze (ze (za (za (za (xn (wm (P:=λz=>∃ o' b':List Int,z=((l,()),o',b',a)/\Ch n l o' b'/\(o'=o/\b'=b\/sk l o<sk l o')) ?_ ?_))))))))))
     ·unfold Qk
      refine vX (σ:=Int×(List vI×Unit)×List Int×List Int×List Int) (λ(d,p,o',b',a')=>(p=(l,())/\a'=a)/\0<=d/\d<=a.length/\Ch n l o' b'/\(o'=o/\b'=b\/sk l o<sk l o')) (λ(d,_)=>(a.length-d).toNat) ⟨⟨rfl,rfl⟩,Z,Z,hC',.inl ⟨rfl,rfl⟩⟩ ?_
      rintro⟨d,p,o',b',a'⟩ ⟨⟨rfl,rfl⟩,d0,d1,hC2,hp⟩
      unfold nK
      simp only[rJ]
      refine zh (λJ => ?_) λJ=>ze (ze (ze (za (za (za (zi ⟨o',b',rfl,hC2,hp⟩))))))
      have J:=uE J
      have hw:qo (d+1)=d+1:=qv (Z) (Z)
      have he:=hgi _ (xw (d:=di) d0 J)
      have he0:0<=nth a' d di:=he.1
      have he1:nth a' d di<l.length:=he.2
      have zsc:=hC2.ol
      have he2:nth a' d di<o'.length:=Z
      have he3:0+(nth a' d di).toNat<o'.length:=Z
      refine qw ⟨d0,J⟩ (zj ⟨rfl,Z⟩ (qw ⟨he0,he2⟩ (zj ⟨rfl,he3⟩ (zh (λe => ?_) λe => ?_))))
      ·have e:nth o' (nth a' d di) di = -1:=by simpa using e
       refine ze (ze (za (za (xn (wm (zaX hC2 ⟨he0,he1⟩ e) ?_)))))
       rintro⟨p,o2,b2⟩ ⟨rfl,hC3,hp3⟩
       refine ze (ze (ze (ze (za (za (za (zi ?_)))))))
       rw[hw]
       refine⟨⟨⟨rfl,rfl⟩,Z,Z,hC3,?_⟩,by simp only; omega⟩
       have hp3:o2=o'/\b2=b'\/sk l o'<sk l o2:=hp3
       show o2=o/\b2=b\/sk l o<sk l o2
       rcases hp3 with⟨rfl,rfl⟩ | k
       ·exact hp
       ·rcases hp with⟨rfl,rfl⟩ | k'
        ·exact .inr k
        ·exact .inr (Int.lt_trans k' k)
      ·refine ze (ze (ze (ze (za (za (za (zi ?_)))))))
       rw[hw]
       exact⟨⟨⟨rfl,rfl⟩,Z,Z,hC2,hp⟩,by simp only; omega⟩
     ·rintro _ ⟨o',b',rfl,hC2,hp⟩
      refine ze (ze (ze (za (za (za (zi ⟨⟨rfl,rfl,hC2⟩,?_⟩))))))
      have h1:=hB o hV
      have M:=hB o' hV
      show 2*(5*l.length-sk l o').toNat+(if true=true/\o=o' then 0 else 1)<2*(5*l.length-sk l o).toNat+(if q.2=true/\q.1=o then 0 else 1)
      rw[if_neg (hw k)]
      rcases hp with⟨rfl,_⟩ | k'
      ·rw[if_pos ⟨rfl,rfl⟩]; omega
      ·split<;>omega
   ·rintro _ ⟨o,b,rfl,hC'⟩
    dsimp only
    rw[cE]
    exact za (zi ⟨nofun,λ_=>⟨n,b,rfl,hC'⟩⟩)
 ·have hz:e=false:=hz
  subst hz
  exact uy rfl (z8 (Z) λr hr=>zi ⟨λ_=>hr,nofun⟩)⟩
instance (l:List vI) (o:List Int) (n:Int):Sp (tJ l o n) (Cw l/\o.length<=1000000) (λr=>r=true->∃ (k:Nat) (y:List Int),n=k/\Ch k l o y):=⟨λh=>by
 unfold tJ
 refine z8 h λz hz => ?_
 rcases z with⟨e,f,x,y⟩ | e
 ·exact zi λk=>by obtain⟨m,h1,M⟩:=hz.2.2 k; exact⟨m,y,h1,M⟩
 ·exact zi λk=>by rw[hz]at k; cases k⟩
instance (l:List vI) (o:List Int) (n i:Int):Sp (mw l o n i) (Cw l/\o.length<=1000000) (λ_=>True):=⟨λh=>by
 unfold mw
 refine z8 h λz hz => ?_
 rcases z with⟨e,f,x,y⟩ | e
 ·obtain⟨rfl,rfl,hC0⟩:=hz
  refine zh (λk => ?_) λ_=>zi trivial
  obtain⟨n,rfl,hC⟩:=hC0 k
  clear hC0
  refine zh (λi0=>zh (λi1 => ?_) λ_=>zi trivial) λ_=>zi trivial
  have i0:=uE i0
  have i1:=uE i1
  have T8:=hC.ol
  refine qw ⟨i0,Z⟩ (zj ⟨rfl,Z⟩ (zh (λ_=>ze (ze (za (za (xn ?_))))) λ_=>zi trivial))
  refine wm (P:=λ_=>True) ?_ λ_ _=>zi trivial
  unfold gP cH
  refine qw ⟨i0,i1⟩ (qw ⟨i0,i1⟩ (ze (ze (za (za (xn ?_))))))
  refine wm (P:=λ_=>True) ?_ λ_ _=>ze (ze (za (za (zi trivial))))
  obtain⟨S,hS⟩:=hC.sg
  obtain⟨rk,hI,_,hr⟩:=hC.rk
  have hvr:=λt ht=>hC.vr i0 i1 (v:=t) ht
  have hlen:(nth l i (zb zq)).2.1.length<=1000:=(hC.ac.2 _ (xw i0 i1)).1.2.2
  dsimp only
  generalize nth l i (zb zq)=c at *
  refine vX (σ:=Int×Int×Int×(List vI×Unit)×List Int×List Int) (λ(_,_,d,p,a,b)=>(p=(l,())/\a=x/\b=y)/\0<=d/\d<=c.2.1.length) (λ(_,_,d,_)=>(c.2.1.length-d).toNat) ⟨⟨rfl,rfl,rfl⟩,Z,Z⟩ ?_
  rintro⟨p,q,d,w,a,b⟩ ⟨⟨rfl,rfl,rfl⟩,d0,d1⟩
  unfold y8
  refine zh (λJ => ?_) λ_=>ze (ze (za (za (zi trivial))))
  have J:=uE J
  have hw:qo (d+1)=d+1:=qv (Z) (Z)
  have htr:=hvr _ (ik.2 ⟨_,xw (d:=zb qj) d0 J,rfl⟩)
  have hn:=hC.n64
  refine qw ⟨d0,J⟩ (ze (ze (za (za (xn (wm (BB hC hS hr _ htr) ?_))))))
  rintro _ rfl
  refine zj (zaa (zP (xm) htr.1) (zP (qB htr.2) (Z))) (zh (λ_=>ze (ze (za (za (zi ?_))))) λ_=>ze (ze (za (za (zi ?_)))))
  all_goals
   rw[hw]
   exact⟨⟨⟨rfl,rfl,rfl⟩,Z,Z⟩,by simp only; omega⟩
 ·have hz:e=false:=hz
  subst hz
  exact wM rfl (zi trivial)⟩
open T PL
theorem zaK{n:Int}{l:List vI}(h:Ac n l)(h0:0<=n)(hn:n<=64){c:vI}(hc:c∈l):(c.2.1.length:Int)<=n:=by
 obtain⟨h1,M⟩:=h.2 c hc
 have hV:=h.vc hn hc
 have R:=h1.2.2
 have hA:∀ x∈c.2.1,rg x.2.1/\rl x.2.1<=1000000:=λx N=>⟨h1.1.1 x N,by have:=Xw N; have:=h1.2.1; unfold cb at this; omega⟩
 have hK:rg c.2.2.1/\rl c.2.2.1<=1000000:=⟨h1.1.2,by have:=DT c; have:=h1.2.1; omega⟩
 have L:∀ s,Sp (tD n c.2.1 (c.2.1.length:Int) s) (s=(0,0)) (λr=>match r with | .inl _=>(c.2.1.length:Int)<=n | .inr b=>b=false):=λs=>⟨λhs=>by
  unfold tD
  refine eJ c.2.1 (zb qj) (λ(_,i)=>i) (λx=>(rg x.2.1/\rl x.2.1<=1000000)/\0<=x.1/\x.1<n) (λ_=>True) (λ(g,i)=>i<=g/\g<=n) (λx N=>⟨hA x N,hV.2.2 x N⟩) (by subst hs; exact⟨rfl,qH _,h0⟩) (λ⟨g,i⟩ x hj N he i0 hi => ?_) λ⟨g,i⟩ hj he _ => ?_
  ·dsimp only at *
   unfold oX
   dsimp only
   rw[he]
   clear he hA hK hV
   exact gog
  ·dsimp only at *
   unfold oX
   clear h1 hA hK hV
   exact gog⟩
 refine Gw (t:=cT c n) (Q:=λr=>r=true->(c.2.1.length:Int)<=n) ?_ M rfl
 unfold cT
 clear hA hV h1 M h
 exact gog
instance (b:List Int) (c:Int):Sp (jl b c) (b.length<=1000000) (λ_=>True):=⟨λh=>by
 have L:Sp (yi b c (b.length:Int) 0) True (λ_=>True):=⟨λ_=>by
  unfold yi
  refine vX (σ:=Int) (λi=>0<=i/\i<=b.length) (λi=>(b.length-i).toNat) ⟨Z,Z⟩ λi hi => ?_
  unfold yj
  exact lg⟩
 unfold jl uG
 exact lg⟩
instance (b:Term) (c:List Int) (d:Int) (a:List Int):Sp (cL b c d a) (0<=d/\d<c.length/\a.length<=1000000) (λr=>r.2=a):=⟨λh=>by
 unfold cL
 rw[cE]
 exact lg⟩
instance (d:List Term) (e:List Int×Int×Unit) (c:List Int):Sp (wG d e c) (0<=e.2.1/\e.2.1<e.1.length/\c.length<=1000000/\d.length<=1000000) (λr=>r.2=c):=⟨λh=>by
 obtain⟨e1,e2,e3⟩:=e
 have L:Sp (vo d (d.length:Int) ((e1,e2,()),0,c)) True (λr=>match r with | .inl a=>a=c | .inr z=>z.2=c):=⟨λ_=>by
  unfold vo
  refine vX (σ:=(List Int×Int×Unit)×Int×List Int) (λ(p,i,b)=>(p=(e1,e2,())/\b=c)/\0<=i/\i<=d.length) (λ(_,i,_)=>(d.length-i).toNat) ⟨⟨rfl,rfl⟩,Z,Z⟩ ?_
  rintro⟨p,i,b⟩ ⟨⟨rfl,rfl⟩,i0,i1⟩
  unfold vp
  exact lg⟩
 unfold wG vL
 exact lg⟩
instance (b:Int) (d:List vI) (f a:List Int):Sp (iP b d f a) ((0<=b/\b<a.length/\b<d.length/\b<f.length/\a.length<=1000000)/\∀ c∈d,c.2.1.length<=1000) (λr=>r.2=a/\(r.1=true->nth a b di ≠ -1)):=⟨λ⟨h,hc⟩=>by
 have hc:=hc _ (xw (d:=zb zq) h.1 h.2.2.1)
 unfold iP
 simp only[rJ]
 exact lg⟩
def cn(e:List Int):Nat:=e.countP λx=>x != -1
theorem zaT{e:List Int}{c:Int}(h0:0<=c)(h1:c<e.length)(h:nth e c di ≠ -1):cn (e.set (0+c.toNat) (-1))+1=cn e:=by
 have hc:0+c.toNat<e.length:=Z
 have e1:e[0+c.toNat]=nth e c di:=by unfold nth; rw[zA]; simp[show c.toNat<e.length by omega]
 have hm:0<e.countP λx=>x != -1:=List.countP_pos_iff.2 ⟨e[0+c.toNat],zO hc,by rw[e1]; simpa using h⟩
 unfold cn
 rw[List.countP_set hc,e1,if_pos (by simpa using h),if_neg (xm)]
 omega
instance (l:List vI) (o:List Int) (n:Int):Sp (Wb l o n) (Cw l/\o.length<=1000000) (λr=>(∀ i:Int,i∈r->(0<=i/\i<l.length)/\0<=nth o i di/\nth o i di<n)/\r.length<=1000):=⟨λ⟨h,ho⟩=>by
 unfold Wb
 refine z8 ⟨h,ho⟩ λz hz=>zh (λ_=>zi ⟨nofun,xm⟩) λk => ?_
 obtain⟨n,y,rfl,hC⟩:=hz (by simpa using k)
 refine z8 (Z) λo' e1 => ?_
 have e1:o'=o:=e1
 subst o'
 have T8:=hC.ol
 have R:=h.1
 refine zj ⟨rfl,rfl,rfl⟩ (ze (za (zj rfl (xn (wm (P:=λz=>(∀ i:Int,i∈z.2->(0<=i/\i<l.length)/\0<=nth o i di/\nth o i di<n)/\z.2.length<=1000) ?_ λ⟨g,b⟩ hz=>za (zi (by rw[cE]; exact hz)))))))
 unfold UB
 refine vX (σ:=(List vI×List Int×Unit)×Int×List Int×List Int) (λ(p,c,e,a)=>p=(l,o,())/\0<=c/\c<=l.length/\e.length=l.length/\(∀ i:Int,0<=i->i<l.length->nth e i di = -1\/nth e i di=nth o i di)/\a.length+cn e<=1000/\∀ i:Int,i∈a->(0<=i/\i<l.length)/\0<=nth o i di/\nth o i di<n) (λ(_,c,e,_)=>cn e*2000+(l.length-c).toNat)
  ⟨rfl,Z,Z,T8,λi _ _=>.inr rfl,?_,nofun⟩ ?_
 ·have:cn o<=o.length:=qE
  simp only[List.length_nil]; omega
 rintro⟨p,c,e,a⟩ ⟨rfl,c0,c1,he,hi,ha,hA⟩
 unfold Q6
 refine zh (λJ => ?_) λJ=>ze (ze (za (za (zi ⟨hA,by show a.length<=1000; omega⟩))))
 have J:=uE J
 have hw:qo (c+1)=c+1:=qv (Z) (Z)
 have hco:c<o.length:=Z
 refine ze (za (z8 ⟨⟨c0,Z,J,hco,Z⟩,λc hc=>(h.2 c hc).2.2⟩ λ⟨f,b⟩ hf => ?_))
 have I:b=e:=hf.1
 subst I
 refine zh (λk=>ze (ze (za (za (zi ?_))))) λk => ?_
 ·rw[hw]
  exact⟨⟨rfl,Z,Z,he,hi,ha,hA⟩,by simp only; omega⟩
 ·have jX:nth b c di ≠ -1:=hf.2 (by simpa using k)
  have hcn:=zaT c0 (Z) jX
  have vU:∀ v:Int,0<=v->nth (b.set (0+c.toNat) (-1)) v di=if v=c then -1 else nth b v di:=λv v0=>Ve c0 (Z) v0
  refine qw ⟨c0,Z⟩ (zj ⟨rfl,Z⟩ (vY (Z) (zj ⟨qz,rfl,qz⟩ (uo (qz) (zj (qz) (zi ?_))))))
  refine⟨⟨rfl,xm,Z,by rw[List.length_set]; exact he,λi i0 i1 => ?_,?_,λi Kv => ?_⟩,?_⟩
  ·rw[vU i i0]
   split
   ·exact .inl rfl
   ·exact hi i i0 i1
  ·show(a++[c]).length+cn (b.set (0+c.toNat) (-1))<=1000
   rw[List.length_append,List.length_singleton]; omega
  ·rcases zG.1 Kv with q | q
   ·exact hA i q
   ·rw[zE.1 q]
    have ho:=(hi c c0 J).resolve_left jX
    have hm:=((hC.oc c c0 J).resolve_left (λq=>jX (ho.trans q))).1
    exact⟨⟨c0,J⟩,hC.vr c0 J hm⟩
  ·show cn (b.set (0+c.toNat) (-1))*2000+(l.length-(0:Int)).toNat<cn b*2000+(l.length-c).toNat
   omega⟩
open T PL
instance (priority:=high) divS (a b:Lf.Rat):Sp (sQ a b) (rg a/\rg b/\rl a+rl b<=10000000) (λr=>rg r.1/\rl r.1<=rl a+rl b+4/\(nm r.1\/rl r.1<=2)):=⟨λh=>by unfold sQ; exact gor⟩
theorem Pj(l:List Lf.Rat)(i:Nat)(h:rs l)(hi:i<l.length):rg (wi l i (zb zl))/\rl (wi l i (zb zl))<=1700:=by
 have e:wi l i (zb zl)∈l:=by unfold wi; rw[zA,zJ hi]; exact zO hi
 exact h.2 _ e
theorem D1(l:List Lf.Rat)(i:Nat)(x:Lf.Rat)(h:rs l)(N:rg x)(R:rl x<=1700):rs (l.set i x):=⟨by simpa using h.1,λy hy=>by
 rcases zI hy with k | rfl
 ·exact h.2 y k
 ·exact⟨N,R⟩⟩
theorem z2U(l:List Lf.Rat)(x:Lf.Rat)(h:rs l)(N:rg x)(R:rl x<=1700)(hn:l.length<1000000000):rs (l++[x]):=⟨by simp; omega,yR h.2 ⟨N,R⟩⟩
theorem LB:rs []:=⟨qz,nofun⟩
theorem csw{l:List vI}(h:VJ l):Cw l:=⟨h.1,λc hc=>⟨(h.2 c hc).1,by have:=(h.2 c hc).2.1; omega,by have:=(h.2 c hc).2.2; omega⟩⟩
theorem z9X(x:Lf.Rat)(h:nm x\/rl x<=2)(k:rl (norm x)<=16):rl x<=1700:=by
 rcases h with h | h
 ·rw[<- show norm x=x from h]; omega
 ·omega
theorem gov{p:Prop} (h:p:=by
 intros
 repeat' (with_reducible first
  | refine zi ?_
  | refine zh (λ_ => ?_) (λ_ => ?_)
  | refine za ?_
  | refine ze ?_
  | refine uo ?_ ?_
  | refine qw ?_ ?_
  | refine vY ?_ ?_
  | refine vk ?_ ?_
  | refine zj ?_ ?_
  | refine vQ (λ_ _ => ?_) (λ_ _ => ?_)
  | refine z8 ?_ (λ_ _ => ?_)
  | refine vA ?_ (λ_ _ => ?_)
  | refine xn ?_
  | dsimp only)
 all_goals grind [xe,uN,zu,j3,yE,List.length_set,List.length_append,List.length_singleton,Wn,Pj,D1,z2U,LB,z9X]):p:=h
instance (c:vI) (v:List Lf.Rat):Sp (BT c v) (ck c/\rs v) (λr=>rg r/\rl r<=12000000):=⟨λ⟨⟨h1,M,h3⟩,hv⟩=>by
 have hA:∀ x∈c.2.1,rg x.2.1/\rl x.2.1<=20700:=λx N=>⟨h1.1 x N,by have:=Xw N; unfold cb at M; omega⟩
 have hK:rg c.2.2.1/\rl c.2.2.1<=20700:=⟨h1.2,by have:=DT c; omega⟩
 have L:∀ z b,Sp (UR v c.2.1 (c.2.1.length:Int) (0,z,b)) (rg b/\rl b<=20700) (λr=>rg r.2/\rl r.2<=12000000):=λz b=>⟨λI=>by
  unfold UR
  refine eJ c.2.1 (zb qj) (λ(i,_)=>i) (λx=>rg x.2.1/\rl x.2.1<=20700) (λ_=>True) (λ(i,_,d)=>0<=i/\i<=512/\rg d/\(rl d:Int)<=20700+22410*i) hA ⟨rfl,xm,xm,I.1,by have:=I.2; show(rl b:Int)<=20700+22410*0; omega⟩ (λ⟨i,y,d⟩ x hj N he i0 hi => ?_) λ⟨i,y,d⟩ hj he _ => ?_
  ·dsimp only at *
   unfold XD
   dsimp only
   rw[he]
   clear he hA I hK h1 M
   exact gov
  ·dsimp only at *
   unfold XD
   clear hA I hK h1 M
   exact gov⟩
 unfold BT
 clear hA h1 M h3
 exact gov⟩
instance (c:vI) (v:List Lf.Rat):Sp (sE c v) (ck c/\rs v) (λ_=>True):=⟨λh=>by unfold sE; exact gov⟩
instance (c:vI) (j:Int) (v:List Lf.Rat):Sp (sU c j v) ((ck c/\rs v)/\c.2.1.length<=64/\∀ t∈c.2.1,0<=t.1/\t.1<v.length) (λr=>r.2=v/\rg r.1/\rl r.1<=3000000/\(nm r.1\/rl r.1<=2)):=⟨λ⟨⟨⟨h1,M,h3⟩,hv⟩,R,ht⟩=>by
 have hA:∀ x∈c.2.1,(rg x.2.1/\rl x.2.1<=20700)/\0<=x.1/\x.1<v.length:=λx N=>⟨⟨h1.1 x N,by have:=Xw N; unfold cb at M; omega⟩,ht x N⟩
 have hK:rg c.2.2.1/\rl c.2.2.1<=20700:=⟨h1.2,by have:=DT c; omega⟩
 have L:∀ z b f,Sp (rQ j c.2.1 (c.2.1.length:Int) (0,v,z,b,f)) (rg b/\rl b<=20700/\rg f/\rl f<=20700) (λr=>r.1=v/\rg r.2.2.1/\rl r.2.2.1<=1600000/\rg r.2.2.2/\rl r.2.2.2<=20700):=λz b f=>⟨λI=>by
  unfold rQ
  refine eJ c.2.1 (zb qj) (λ(i,_)=>i) (λx=>(rg x.2.1/\rl x.2.1<=20700)/\0<=x.1/\x.1<v.length) (λ_=>True) (λ(i,a,_,d,e)=>a=v/\0<=i/\i<=64/\rg d/\(rl d:Int)<=20700+22410*i/\rg e/\rl e<=20700) hA ⟨rfl,rfl,xm,xm,I.1,by have:=I.2.1; show(rl b:Int)<=20700+22410*0; omega,I.2.2⟩ (λ⟨i,a,y,d,e⟩ x hj N he i0 hi => ?_) λ⟨i,a,y,d,e⟩ hj he _ => ?_
  ·dsimp only at *
   unfold iR
   dsimp only
   rw[he]
   clear he hA I hK h1 M ht
   exact gov
  ·dsimp only at *
   unfold iR
   clear hA I hK h1 M ht
   exact gov⟩
 unfold sU
 clear hA h1 M h3 ht
 exact gov⟩
instance (l:List vI) (o:List Int) (v:List Lf.Rat):Sp (KI l o v) (VJ l/\o.length<=1000000/\rs v) (λr=>(r.2.2=0->rs r.1/\r.1.length=v.length) /\ -1<=r.2.1/\r.2.1<l.length):=⟨λ⟨h,ho,hv⟩=>by
 unfold KI
 refine z8 ⟨csw h,ho⟩ λz hz=>zh (λ_=>zi ⟨nofun,by show(-1:Int) <= -1/\(-1:Int)<l.length; omega⟩) λk => ?_
 obtain⟨n,y,hn,hC⟩:=hz (by simpa using k)
 have hn:v.length=n:=Z
 subst hn
 have T8:=hC.ol
 have zs6:=hC.n64
 refine zj ⟨rfl,rfl,rfl⟩ (zj rfl (xn (wm (P:=λd=>rs d/\d.length=v.length) ?_ λd J => ?_)))
 ·unfold Ge
  refine vX (σ:=Int×List Lf.Rat) (λ(i,a)=>0<=i/\i<=v.length/\rs a/\(a.length:Int)=i) (λ(i,_)=>(v.length-i).toNat) ⟨xm,Z,LB,rfl⟩ ?_
  rintro⟨i,a⟩ ⟨i0,i1,ha,R⟩
  have N:=λq=>D0 hv i i0 q
  have hv1:=hv.1
  unfold Vm
  clear hC h hz
  exact gov
 ·refine z8 ⟨csw h,ho⟩ λf hf=>ze (za (xn (wm (P:=λz:List Lf.Rat⊕(Int×Int×List Lf.Rat)=>z.elim (λa=>rs a/\a.length=v.length) λz=>((0:Int)<=z.1/\z.1<(l.length:Int))/\z.2.1=(8:Int)) ?_ λz hz => ?_)))
  ·unfold Gf
   refine eJ (σ:=Int×List Lf.Rat) f di (λ(i,_)=>i) (λi:Int=>(0<=i/\i<l.length)/\0<=nth o i di/\nth o i di<v.length) (λ_=>True) (λ(_,a)=>rs a/\a.length=v.length) hf.1 ⟨rfl,J⟩ (λ⟨i,a⟩ x hj N he i0 hi => ?_) λ⟨i,a⟩ hj he _ => ?_
   ·dsimp only at he i0 hi
    obtain⟨⟨x0,x1⟩,y0,y1⟩:=N
    obtain⟨ha,Ka⟩:=hj
    have hcm:=xw (l:=l) (d:=zb zq) x0 x1
    have hV:=(hC.ac.vc (Z) hcm).2.2
    have hlen:=zaK hC.ac (Z) (Z) hcm
    have hck:=h.2 _ hcm
    have GH:x<o.length:=Z
    have hw:qo (i+1)=i+1:=qv (Z) (by have:=hf.2; omega)
    unfold Q7
    dsimp only
    rw[show nth f i (zb (.int .i64))=x from he]
    refine uy (by simpa using hi) (qw ⟨i0,hi⟩ (qw ⟨x0,x1⟩ (qw ⟨x0,GH⟩ (ze (za (z8 ⟨⟨hck,ha⟩,Z,λt ht=>by rw[Ka]; exact hV t ht⟩ λ⟨g,b⟩ hg => ?_))))))
    obtain⟨I,T1,hg2,hg3⟩:=hg
    have I:b=a:=I
    subst I
    refine z8 ⟨T1,by have:rl g<=3000000:=hg2; show rl g<=_; omega⟩ λk hk=>zh (λ_=>za (zi ⟨⟨x0,x1⟩,rfl⟩)) λe => ?_
    have hrl:=z9X g hg3 (hk (by simpa using e))
    have hy1:nth o x di<b.length:=by rw[Ka]; exact y1
    refine qw ⟨x0,GH⟩ (qw ⟨y0,hy1⟩ (zj ⟨rfl,by rw[Nat.zero_add]; show(nth o x di).toNat<b.length; omega⟩ (zj ⟨by rw[List.length_set],rfl,by rw[List.length_set]⟩ (zj (by rw[List.length_set]) (zi ⟨hw,⟨D1 _ _ _ ha T1 hrl,by show(List.set _ _ _).length=_; rw[List.length_set]; exact Ka⟩,trivial⟩)))))
   ·unfold Q7
    refine wM (by simpa using Int.le_of_eq he.symm) (ze (za (zi hj)))
  ·rcases z with a | ⟨h1,i1,j1⟩
   ·refine za (zi ?_)
    rw[cE]
    exact⟨λ_=>hz,by show(-1:Int) <= -1/\(-1:Int)<l.length; omega⟩
   ·obtain⟨⟨k0,k1⟩,k2⟩:=hz
    have k2:i1=8:=k2
    subst k2
    exact zi ⟨nofun,by have:0<=h1:=k0; show -1<=h1; omega,k1⟩⟩
open T PL
instance (c:vI):Sp (Q8 c) (ck c) (λ_=>True):=⟨λh=>by
 have h1:=h.1.2
 have M:=h.2.1
 have h3:=DT c
 unfold Q8
 exact gov⟩
instance (c:vI) (n:Int):Sp (yQ c n) (n<=1000000/\ck c) (λr=>r=false->(cT c n).run=some true):=⟨λh=>by
 unfold yQ
 obtain⟨r,hr,_⟩:=T.mn.1 (Sp.sp (t:=cT c n) ⟨h.1,h.2.1,by have:=h.2.2.1; omega,by have:=h.2.2.2; omega⟩)
 exact xn (bF hr (zi λe=>by rw[hr]; simpa using e))⟩
def ou(l:List Int):Prop:=∀ x∈l,-1<=x/\x<1000000000000000000
instance (l:List vI) (s:j8):Sp (ta l s) (VJ l/\s.1.length<=1000000/\rs s.2.1) (λr=>(r.2.2=0->rs r.1.2.1/\r.1.2.1.length=s.2.1.length/\r.1.1.length=l.length/\ou r.1.1) /\ -1<=r.2.1/\r.2.1<l.length):=⟨λ⟨h,ho,hv⟩=>by
 unfold ta
 have z5R:(-1:Int)<l.length:=Z
 refine xn (wm (P:=λz=>(z.1=false->Ac s.2.1.length l/\s.2.1.length<=64)/\z.2.2=(s.2.1.length:Int)) ?_ ?_)
 ·refine zh (λ_=>zi ⟨nofun,rfl⟩) λ_=>zh (λ_=>zi ⟨nofun,rfl⟩) λh64=>zh (λ_=>zi ⟨nofun,rfl⟩) λ_=>zh (λ_=>zi ⟨nofun,rfl⟩) λ_ => ?_
  have h64:=gZ h64
  refine z8 ⟨by have:=h.1; omega,λx N=>⟨Z,h.2 x N⟩⟩ λr hr=>zi ⟨λe=>⟨⟨h.1,λc hc=>⟨(csw h).2 c hc,?_⟩⟩,Z⟩,rfl⟩
  have e:r=false:=e
  rcases hr with⟨_,k⟩ | ⟨k,_⟩
  ·exact k c hc rfl
  ·rw[e]at k; cases k
 ·rintro⟨j,k,d⟩ ⟨hA,J⟩
  have J:d=s.2.1.length:=J
  subst J
  refine zh (λ_=>zi ⟨nofun,by show(-1:Int) <= -1; decide,z5R⟩) λe => ?_
  obtain⟨hA,h64⟩:=hA e
  refine z8 ⟨Z,Z,hA⟩ λf hf=>zh (λe=>zi ⟨nofun,hf.1,hf.2.1⟩) λ_ => ?_
  refine z8 ⟨csw h,ho⟩ λ⟨o,b⟩ hS=>zh (λ_=>zi ⟨nofun,by show(-1:Int) <= -1; decide,z5R⟩) λe => ?_
  obtain⟨m,y,hm,hC⟩:=hS.2 (by simpa using e)
  have T8:o.length=l.length:=hC.ol
  have zel:=h.1
  have hou:ou o:=λx N=>by
   obtain⟨j,j0,j1,rfl⟩:=KA (d:=di) N
   rcases hC.oc j j0 (Z)with q | ⟨q,_⟩
   ·have q:nth o j di = -1:=q
    omega
   ·have q2:0<=nth o j di/\nth o j di<(m:Int):=hC.vr j0 (Z) q
    have:=hC.n64
    omega
  refine xn (wm (P:=λz:(j8×Int)⊕(Int×Int×j8×Int)=>z.elim (λ_=>True) λz=>((-1:Int)<=z.1/\z.1<(l.length:Int))/\z.2.1=(10:Int)) ?_ ?_)
  ·unfold Xs
   refine vX (σ:=Int×j8×Int) (λ(i,_)=>0<=i/\i<=l.length) (λ(i,_)=>(l.length-i).toNat) ⟨xm,Z⟩ ?_
   rintro⟨i,c,d⟩ ⟨i0,i1⟩
   have N:0<=i->i<l.length->ck (nth l i (zb zq)):=λp q=>h.2 _ (xw p q)
   unfold sb
   clear hC hS hA hf h hv
   exact gov
  ·rintro(⟨r,t⟩ | ⟨i,q,t,u⟩) hz
   ·refine z8 ⟨h,by show o.length<=_; omega,hv⟩ λ⟨m,n,g⟩ hR=>zh (λe=>zi ⟨λq => ?_,hR.2⟩) λe=>zi ⟨λ_=>⟨(hR.1 ?_).1,(hR.1 ?_).2,T8,hou⟩,by show(-1:Int) <= -1; decide,z5R⟩
    ·have q:g=0:=q
     rw[q]at e; cases e
    ·simpa using e
    ·simpa using e
   ·obtain⟨⟨k0,k1⟩,k2⟩:=hz
    have k2:q=10:=k2
    subst k2
    exact zi ⟨nofun,k0,k1⟩⟩
def Sys(a:uj):Prop:=VJ a.2.1/\a.2.2.1.length=a.2.1.length/\a.2.2.2.1.length=a.2.1.length/\io (a.1.2.2.2.2.1.length+a.1.2.2.2.1.length) a.2.2.2.1
instance (b:Int) (a:uj):Sp (cI b a) (Sys a /\ -1<=b/\b<a.2.1.length/\a.1.2.2.2.2.1.length<=10000/\a.1.2.2.2.1.length<=10000) (λr=>r.2=a/\r.1.length<=1):=⟨λ⟨⟨h1,M,h3,h4⟩,h5,h6,h7⟩=>by
 have N:0<=b->0<=nth a.2.2.2.1 b (zb (.int .i64))/\nth a.2.2.2.1 b (zb (.int .i64))<a.1.2.2.2.2.1.length+a.1.2.2.2.1.length:=λp=>h4 _ (xw p (Z))
 unfold cI
 clear h1 h4
 exact gov⟩
instance (g:List Lf.Rat) (a:uj):Sp (jQ g a) (Sys a/\rs g/\a.1.2.2.2.2.1.length<=10000/\a.1.2.2.2.1.length<=10000) (λr=>(r.2.2.1=0->rs r.1/\r.1.length=g.length/\Sys r.2.2.2/\r.2.2.2.1=a.1/\r.2.2.2.2.1=a.2.1/\ou r.2.2.2.2.2.1)/\r.2.1.length<=1):=⟨λ⟨h,hg,hF⟩=>by
 unfold jQ
 refine z8 ⟨h.1,by have:=h.2.1; have:=h.1.1; show a.2.2.1.length<=_; omega,hg⟩ λ⟨b,d,c⟩ hP=>zh (λe=>z8 ⟨h,hP.2.1,hP.2.2,hF⟩ λz hz=>zi ⟨λq => ?_,hz.2⟩) λe=>zi ⟨λ_ => ?_,V _⟩
 ·have q:c=0:=q
  rw[q]at e; cases e
 ·obtain⟨p1,p2,p3,p4⟩:=hP.1 (by simpa using e)
  exact⟨p1,p2,⟨h.1,p3,h.2.2⟩,rfl,rfl,p4⟩⟩
open T PL
def Pn(p:qk):Prop:=rg p.2.2.1/\rl p.2.2.1<=1700
def Ps(l:List qk):Prop:=l.length<=1000000000/\∀ p∈l,Pn p
def Dw(d:qe):Prop:=rs d.1/\d.2.1.length<=1000000000/\rs d.2.2.1/\d.2.2.2.1.length<=1000000000/\Ps d.2.2.2.2.1/\d.2.2.2.2.2.1.length<=1000000000/\ou d.2.2.2.1
theorem I3(l:List qk)(i:Int)(h:Ps l)(h0:0<=i)(h1:i<l.length):rg (nth l i (zb zm)).2.2.1/\rl (nth l i (zb zm)).2.2.1<=1700:=h.2 _ (xw h0 h1)
theorem Mn(l:List qk)(i:Nat)(h:Ps l)(hi:i<l.length):rg (wi l i (zb zm)).2.2.1/\rl (wi l i (zb zm)).2.2.1<=1700:=by
 have e:wi l i (zb zm)∈l:=by unfold wi; rw[zA,zJ hi]; exact zO hi
 exact h.2 _ e
theorem BS(l:List qk)(i:Nat)(x:qk)(h:Ps l)(N:rg x.2.2.1)(R:rl x.2.2.1<=1700):Ps (l.set i x):=⟨by simpa using h.1,λy hy=>by
 rcases zI hy with k | rfl
 ·exact h.2 y k
 ·exact⟨N,R⟩⟩
theorem zaB(l:List qk)(x:qk)(h:Ps l)(N:rg x.2.2.1)(R:rl x.2.2.1<=1700)(hn:l.length<1000000000):Ps (l++[x]):=⟨by simp; omega,yR h.2 ⟨N,R⟩⟩
theorem zaC:Ps []:=⟨qz,nofun⟩
theorem Cz(n:Int)(l:List Int)(i:Nat)(h:io n l)(hi:i<l.length):0<=wi l i (zb (.int .i64))/\wi l i (zb (.int .i64))<n:=h _ (Uk hi)
theorem z9L(n m:Int)(l:List Int)(h:io n l)(k:n<=m):io m l:=λi hi=>⟨(h i hi).1,Int.lt_of_lt_of_le (h i hi).2 k⟩
theorem ze4(t:Term)(k:Lf.Rat)(h1:rg t.2.1)(M:rl t.2.1<=20700)(h3:rg k)(h4:rl k<=20700):ck (1,[t],k,()):=by
 refine⟨⟨λx N=>by rw[zE.1 N]; exact h1,h3⟩,?_,by show 1<=512; decide⟩
 show max (max (rl t.2.1) 0) (rl k)<=20700
 omega
theorem god{p:Prop} (h:p:=by
 intros
 repeat' (with_reducible first
  | refine zi ?_
  | refine zh (λ_ => ?_) (λ_ => ?_)
  | refine za ?_
  | refine ze ?_
  | refine uo ?_ ?_
  | refine qw ?_ ?_
  | refine vY ?_ ?_
  | refine vk ?_ ?_
  | refine zj ?_ ?_
  | refine vQ (λ_ _ => ?_) (λ_ _ => ?_)
  | refine z8 ?_ (λ_ _ => ?_)
  | refine vA ?_ (λ_ _ => ?_)
  | refine xn ?_
  | dsimp only)
 all_goals grind [xe,uN,zu,j3,yE,List.length_set,List.length_append,List.length_singleton,List.length_nil,Wn,Pj,D1,z2U,LB,I3,Mn,BS,zaB,zaC,Cz,ze4,C7,Cy]):p:=h
instance (c:Int) (d:Lf.Rat):Sp (C9 c d) (rg d/\rl d<=1700) (λr=>ck r):=⟨λh=>by
 unfold C9
 exact god⟩
instance (q:Int) (i:Lf.Rat) (f:Int) (a:Form) (b:List vI) (c d:List Int):Sp (kJ q i f a b c d) ((rg i/\rl i<=1700)/\(VJ b/\b.length<=900)/\c.length<=10000/\d.length<=10000/\0<=q/\q<a.2.2.2.1.length/\a.2.2.2.1.length<=10000/\a.2.2.2.2.1.length<=10000/\io (a.2.2.2.2.1.length+a.2.2.2.1.length) d)
  (λr=>(VJ r.2.1/\r.2.1.length=b.length+1)/\r.2.2.1.length=c.length+1/\(r.2.2.2.length=d.length+1/\io (a.2.2.2.2.1.length+a.2.2.2.1.length) r.2.2.2)/\r.1=a):=⟨λh=>by
 obtain⟨hi,⟨I,hb9⟩,hc,J,q0,q1,hf,hr,hio⟩:=h
 have hw:qo ((a.2.2.2.2.1.length:Int)+q)=a.2.2.2.2.1.length+q:=qv (Z) (Z)
 unfold kJ
 refine z8 hi λe he=>vY (Z) (vY (Z) (vY (Z) (zj ⟨qz,rfl,qz⟩ (zj ⟨qz,rfl,qz⟩ (zj ⟨qz,rfl,qz⟩ (zj (qz) (zj (qz) (zj (qz) (zi ?_)))))))))
 rw[hw]
 exact⟨⟨C7 b e I he (Z),qz⟩,qz,⟨qz,Cy _ _ _ hio (Z) (Z)⟩,rfl⟩⟩
instance (f:Form) (d:qe):Sp (QR f d) True (λr=>r=true->d.2.2.1.length=f.2.2.2.1.length/\d.2.2.2.1.length=f.2.2.2.2.1.length/\d.2.2.2.2.1.length=f.2.2.2.1.length/\d.2.2.2.2.2.1.length=f.2.2.2.1.length):=⟨λ_=>by
 unfold QR
 refine zi λh => ?_
 simp only[zU,beq_iff_eq]at h
 omega⟩
def Bt(f:Form)(b:List vI)(c d:List Int):Prop:=VJ b/\c.length=b.length/\d.length=b.length/\io (f.2.2.2.2.1.length+f.2.2.2.1.length) d
instance (f:Form) (d:qe):Sp (cW f d) (FW 8200 f/\Dw d) (λr=>match r with | .inl (k,a,b,c,e)=>k=0/\a=f/\Bt f b c e/\FV f/\f.2.2.2.1.length<=64/\f.2.2.2.2.1.length<=64/\d.2.2.1.length=f.2.2.2.1.length/\d.2.2.2.1.length=f.2.2.2.2.1.length/\d.2.2.2.2.1.length=f.2.2.2.1.length/\d.2.2.2.2.2.1.length=f.2.2.2.1.length/\d.1.length=f.2.1.length/\d.2.1.length=f.1.length/\b.length<=128 | .inr (n,k)=>k≠0/\n.length<=1):=⟨λ⟨hF,hD⟩=>by
 unfold cW
 refine z8 trivial λo ho=>zh (λ_=>zi ⟨xm,V _⟩) λe => ?_
 have ho:=ho (by simpa using e)
 refine z8 ⟨hF,hD.1,hD.2.1⟩ λ⟨p,n,k,g,b⟩ hz=>zh (λe=>zi ⟨by simpa using(qG.1 e).1,zT _⟩) λ_=>zh (λe=>zi ⟨by simpa using e,V _⟩) λe => ?_
 obtain⟨hg,I,hgb,zbu,hz⟩:=hz
 obtain⟨hV,h1,M,h3,h4⟩:=hz (by simpa using e)
 dsimp only at hg I hgb zbu
 refine ze (za (za (ze (zj ⟨rfl,rfl,rfl⟩ (ze (zj rfl (xn (wm (P:=λz=>∃ c:List Int,z=(g,b,(),f,c)/\c.length=b.length) ?_ ?_))))))))
 ·unfold QP
  refine vX (σ:=Int×List vI×List Int×Unit×Form×List Int) (λ(i,x,y,u,w,c)=>(x=g/\y=b/\w=f)/\0<=i/\i<=b.length/\(c.length:Int)=i) (λ(i,_)=>(b.length-i).toNat) ⟨⟨rfl,rfl,rfl⟩,xm,Z,rfl⟩ ?_
  rintro⟨i,x,y,u,w,c⟩ ⟨⟨rfl,rfl,rfl⟩,i0,i1,hc⟩
  unfold pR
  refine zh (λJ => ?_) λJ => ?_
  ·have J:=uE J
   have hn:=Cz _ _ (0+i.toNat) I (Z)
   have hw:qo (i+1)=i+1:=qv (Z) (Z)
   have Yi:wi y (0+i.toNat) (zb (.int .i64))<d.2.2.2.1.length:=by have:=hn.2; have:=ho.2.1; omega
   refine qw ⟨i0,J⟩ (zj ⟨rfl,Z⟩ (qw ⟨hn.1,Yi⟩ (vY (Z) (ze (za (za (ze (zj ⟨qz,rfl,qz⟩ (ze (zj (qz) (zi ?_)))))))))))
   rw[hw]
   exact⟨⟨⟨rfl,rfl,rfl⟩,Z,Z,by show((c++[_]).length:Int)=i+1; rw[List.length_append,List.length_singleton]; omega⟩,by simp only; omega⟩
  ·have J:=gZ J
   exact za (za (ze (ze (ze (za (zi ⟨c,rfl,Z⟩))))))
 ·rintro _ ⟨c,rfl,hc⟩
  refine za (za (ze (ze (ze (za (xn (wm (P:=λz=>∃ (x:List vI) (y q:List Int) (w:Form),z=(x,y,(),w,q)/\Bt f x q y/\w=f/\x.length<=128) ?_ ?_)))))))
  ·unfold QQ
   have hPn:=hD.2.2.2.2.1
   have zmG:d.2.2.2.2.1.length<=64:=by have:=ho.2.2.1; omega
   have hP3:=ho.2.2.1
   generalize d.2.2.2.2.1=ps at hPn zmG hP3 ⊢
   refine vX (σ:=Int×List vI×List Int×Unit×Form×List Int) (λ(i,x,y,u,w,c)=>w=f/\0<=i/\i<=ps.length/\Bt f x c y/\(x.length:Int)<=64+i) (λ(i,_)=>(ps.length-i).toNat) ⟨rfl,xm,Z,⟨hg,Z,Z,z9L _ _ _ I (Z)⟩,Z⟩ ?_
   rintro⟨i,x,y,u,w,c⟩ ⟨rfl,i0,i1,hB,N⟩
   obtain⟨b1,b2,b3,b4⟩:=hB
   unfold pS
   refine zh (λJ => ?_) λJ => ?_
   ·have J:=uE J
    have hp:=I3 ps i hPn i0 J
    have hw:qo (i+1)=i+1:=qv (Z) (Z)
    refine qw ⟨i0,J⟩ (zh (λ_=>za (za (ze (ze (ze (za (zi ?_))))))) λ_ => ?_)
    ·rw[hw]
     exact⟨⟨rfl,Z,Z,⟨b1,b2,b3,b4⟩,Z⟩,by simp only; omega⟩
    ·have q1:i<w.2.2.2.1.length:=Z
     have q2:w.2.2.2.1.length<=10000:=Z
     have q3:w.2.2.2.2.1.length<=10000:=Z
     refine ze (ze (ze (za (za (za (z8 ⟨hp,⟨b1,Z⟩,Z,Z,i0,q1,q2,q3,b4⟩ λ⟨e,p,q,r⟩ hr=>za (za (ze (ze (ze (za (zi ?_))))))))))))
     obtain⟨⟨r1,r2⟩,r3,⟨r4,r5⟩,r6⟩:=hr
     dsimp only at r1 r2 r3 r4 r5 r6
     rw[hw]
     exact⟨⟨r6,Z,Z,⟨r1,Z,Z,r5⟩,Z⟩,by simp only; omega⟩
   ·exact za (za (ze (ze (ze (za (zi ⟨x,y,c,w,rfl,⟨b1,b2,b3,b4⟩,rfl,Z⟩))))))
  ·rintro _ ⟨x,y,q,w,rfl,hB,rfl,N⟩
   exact ze (ze (ze (za (za (za (zi ⟨rfl,rfl,hB,hV,h1,M,ho.1,ho.2.1,ho.2.2.1,ho.2.2.2,h3,h4,N⟩))))))⟩
open T PL
theorem goz{p:Prop} (h:p:=by
 intros
 repeat' (with_reducible first
  | refine zi ?_
  | refine zh (λ_ => ?_) (λ_ => ?_)
  | refine za ?_
  | refine ze ?_
  | refine uo ?_ ?_
  | refine qw ?_ ?_
  | refine vY ?_ ?_
  | refine vk ?_ ?_
  | refine zj ?_ ?_
  | refine vQ (λ_ _ => ?_) (λ_ _ => ?_)
  | refine z8 ?_ (λ_ _ => ?_)
  | refine vA ?_ (λ_ _ => ?_)
  | refine xn ?_
  | dsimp only)
 all_goals grind [xe,uN,zu,j3,List.length_set]):p:=h
instance (a:qe):Sp (lN a) (Dw a) (λr=>r=((),a.1,a.2.1,a.2.2.1,a.2.2.2.1,a.2.2.2.2.1,a.2.2.2.2.2.1)):=⟨λ⟨h1,M,h3,h4,h5,h6⟩=>by
 have k1:=h1.1
 have k3:=h3.1
 have k5:=h5.1
 unfold lN
 exact goz⟩
theorem Lp{l:List Int}(h:ou l)(i:Nat){x:Int}(N : -1<=x/\x<1000000000000000000):ou (l.set i x):=λy hy=>by
 rcases zI hy with k | rfl
 ·exact h y k
 ·exact N
def Tm(w:qe)(a:List Int)(d:List qk):Prop:=ou a/\a.length=w.2.2.2.1.length/\Ps d/\d.length=w.2.2.2.2.1.length
instance (w:qe) (x:List Lf.Rat) (y:uj):Sp (gy w x y) (Dw w/\(Sys y/\ou y.2.2.1)/\w.2.2.2.1.length=y.1.2.2.2.2.1.length/\w.2.2.2.2.1.length=y.1.2.2.2.1.length)
  (λr=>∃ (a:List Int) (d:List qk),r=((x,()),y,w.1,w.2.1,a,d,w.2.2.2.2.2.1)/\Tm w a d):=⟨λ⟨hD,⟨hS,hou⟩,hR,hF⟩=>by
 have J:=hD.2.2.2.2.1
 have ho:=hD.2.2.2.1
 have hd2:=J.1
 obtain⟨s1,s2,s3,s4⟩:=hS
 have s5:=s1.1
 unfold gy
 refine z8 hD λ_ e => ?_
 subst e
 refine ze (ze (ze (ze (ze (za (za (za (za (za (za (xn (wm (P:=λz=>∃ (k:qe) (a:List Int),z=(y,(x,()),k,w.1,w.2.1,w.2.2.1,a,w.2.2.2.2.1,w.2.2.2.2.2.1)/\ou a/\a.length=w.2.2.2.1.length) ?_ ?_))))))))))))
 ·unfold mN
  refine vX (λz=>∃ (i:Int) (k:qe) (a:List Int),z=(i,y,(x,()),k,w.1,w.2.1,w.2.2.1,a,w.2.2.2.2.1,w.2.2.2.2.2.1)/\(ou a/\a.length=w.2.2.2.1.length)/\0<=i/\i<=w.2.2.2.1.length) (λz=>(w.2.2.2.1.length-z.1).toNat) ⟨0,_,_,rfl,⟨hD.2.2.2.2.2.2,rfl⟩,xm,Z⟩ ?_
  rintro _ ⟨i,k,a,rfl,⟨hoa,ha⟩,i0,i1⟩
  unfold cX
  refine zh (λhi => ?_) λhi => ?_
  ·have hi:=uE hi
   have hw:qo (i+1)=i+1:=qv (Z) (Z)
   refine qw ⟨i0,Z⟩ (zj ⟨rfl,Z⟩ (ze (ze (zj ⟨by rw[List.length_set],rfl,by rw[List.length_set]⟩ (ze (ze (za (za (za (zj (by rw[List.length_set]) (za (za (zi ?_)))))))))))))
   rw[hw]
   exact⟨⟨i+1,k,_,rfl,⟨Lp hoa _ (xm),by rw[List.length_set]; exact ha⟩,Z,Z⟩,by simp only; omega⟩
  ·exact ze (ze (ze (ze (ze (za (za (za (za (za (za (zi ⟨k,a,rfl,hoa,ha⟩)))))))))))
 ·rintro _ ⟨k,a,rfl,hoa,ha⟩
  refine ze (ze (ze (ze (ze (za (za (za (za (za (za (xn (wm (P:=λz=>∃ (k:qe) (a:List Int) (d:List qk),z=(y,(x,()),k,w.1,w.2.1,w.2.2.1,a,d,w.2.2.2.2.2.1)/\Tm w a d) ?_ ?_))))))))))))
  ·unfold mO
   refine vX (λz=>∃ (i:Int) (k:qe) (a:List Int) (d:List qk),z=(i,y,(x,()),k,w.1,w.2.1,w.2.2.1,a,d,w.2.2.2.2.2.1)/\Tm w a d/\0<=i/\i<=y.2.2.1.length) (λz=>(y.2.2.1.length-z.1).toNat) ⟨0,_,_,_,rfl,⟨hoa,ha,J,rfl⟩,xm,Z⟩ ?_
   rintro _ ⟨i,k,a,d,rfl,⟨hoa,ha,J,Eu⟩,i0,i1⟩
   unfold cY
   refine zh (λhi => ?_) λhi => ?_
   ·have hi:=uE hi
    have hw:qo (i+1)=i+1:=qv (Z) (Z)
    have hio:i<y.2.2.2.1.length:=Z
    have hh:=s4 _ (xw (d:=di) i0 hio)
    have h0:(0:Int)<=nth y.2.2.2.1 i di:=hh.1
    have h1:(y.1.2.2.2.2.1.length+y.1.2.2.2.1.length:Int) > nth y.2.2.2.1 i di:=hh.2
    refine qw ⟨i0,hi⟩ (qw ⟨i0,hio⟩ (zh (λe => ?_) λe => ?_))
    ·have e:(a.length:Int) > nth y.2.2.2.1 i di:=uE e
     have e':0+(nth y.2.2.2.1 i di).toNat<a.length:=Z
     refine qw ⟨h0,e⟩ (zj ⟨rfl,e'⟩ (ze (ze (zj ⟨by rw[List.length_set],rfl,by rw[List.length_set]⟩ (ze (ze (za (za (za (zj (by rw[List.length_set]) (za (za (zi ?_)))))))))))))
     rw[hw]
     exact⟨⟨i+1,k,_,d,rfl,⟨Lp hoa _ (hou _ (xw (d:=di) i0 (Z))),by rw[List.length_set]; exact ha,J,Eu⟩,Z,Z⟩,by simp only; omega⟩
    ·have e:¬ (a.length:Int) > nth y.2.2.2.1 i di:=gZ e
     have hwm:qo (nth y.2.2.2.1 i di-a.length)=nth y.2.2.2.1 i di-a.length:=qv (Z) (Z)
     have e1:(0:Int)<=qo (nth y.2.2.2.1 i di-a.length)/\(d.length:Int) > qo (nth y.2.2.2.1 i di-a.length):=by rw[hwm]; omega
     have e2:0+(qo (nth y.2.2.2.1 i di-a.length)).toNat<d.length:=Z
     have hp:=Mn d _ J e2
     refine qw e1 (zj ⟨rfl,e2⟩ (ze (ze (ze (zj ⟨by rw[List.length_set],rfl,by rw[List.length_set]⟩ (ze (za (za (za (za (zj (by rw[List.length_set]) (za (zi ?_)))))))))))))
     rw[hw]
     exact⟨⟨i+1,k,a,_,rfl,⟨hoa,ha,BS _ _ _ J hp.1 hp.2,by rw[List.length_set]; exact Eu⟩,Z,Z⟩,by simp only; omega⟩
   ·exact ze (ze (ze (ze (ze (za (za (za (za (za (za (zi ⟨k,a,d,rfl,hoa,ha,J,Eu⟩)))))))))))
  ·rintro _ ⟨k,a,d,rfl,hT⟩
   exact ze (ze (ze (ze (ze (za (za (za (za (za (zi ⟨a,d,rfl,hT⟩))))))))))⟩
def Dx(f:Form)(d:qe):Prop:=Dw d/\FV f/\f.2.2.2.1.length<=64/\f.2.2.2.2.1.length<=64/\d.2.2.1.length=f.2.2.2.1.length/\d.2.2.2.1.length=f.2.2.2.2.1.length/\d.2.2.2.2.1.length=f.2.2.2.1.length/\d.2.2.2.2.2.1.length=f.2.2.2.1.length/\d.1.length=f.2.1.length/\d.2.1.length=f.1.length
theorem z8W{α:Type}{t:T α}{Q:α->Prop}(k:t.wp Q):(T.W (zu 0 0 0 0) (T.W (zu 0 0 0 0) (T.W (zu 0 0 0 0) (T.W (zu 0 0 0 0) (oZ (T.W ((0:Nat)=0) (T.W ((0:Nat)=0) (T.W ((0:Nat)=0) (T.W ((0:Nat)=0) t))))))))).wp Q:=by
 have c:zu 0 0 0 0:=⟨rfl,rfl,rfl⟩
 exact⟨c,c,c,c,c,rfl,rfl,rfl,rfl,rfl,k⟩
theorem zdc{α A hI C D κ':Type}{a:List A}{b:List hI}{c:List C}{d:List D}{e:List κ'}{t:T α}{Q:α->Prop}(k:t.wp Q):(oC a (oC b (oC c (oC d (oC e (U a (U b (U c (U d (U e t)))))))))).wp Q :=
 ze (ze (ze (ze (ze (za (za (za (za (za k)))))))))
abbrev D8(r:((List Lf.Rat)×Unit)×(List zx)×Int×(List Lf.Rat)×(List Bool)×(List Int)×(List qk)×(List Bool)):qe:=(r.2.2.2.1,r.2.2.2.2.1,r.1.1,r.2.2.2.2.2.1,r.2.2.2.2.2.2.1,r.2.2.2.2.2.2.2,())
instance (f:Form) (d:qe):Sp (dG f d) (FW 8200 f/\Dw d) (λr=>(r.2.2.1=0->Dx f (D8 r))/\r.2.1.length<=1):=⟨λ⟨hF,hD⟩=>by
 unfold dG
 refine z8 ⟨hF,hD⟩ λz hz => ?_
 rcases z with⟨k,a,b,c,e⟩ | ⟨n,m⟩
 ·obtain⟨rfl,rfl,⟨b1,b2,b3,b4⟩,hV,f1,f2,l1,l2,l3,l4,l5,l6,-⟩:=hz
  refine wM rfl (za (za (za ?_)))
  rw[cE,cE,cE]
  refine z8 ⟨⟨b1,b2,b3,b4⟩,hD.2.2.1,by show a.2.2.2.2.1.length<=_; omega,by show a.2.2.2.1.length<=_; omega⟩ λ⟨v,ns,err,y⟩ hp=>zh (λe=>z8W (zi ⟨λq => ?_,hp.2⟩)) λe => ?_
  ·have q:err=0:=q
   rw[q]at e; cases e
  ·obtain⟨p1,p2,p3,p4,-,p5⟩:=hp.1 (by simpa using e)
   have p4:y.1=a:=p4
   have p2:v.length=d.2.2.1.length:=p2
   refine z8 ⟨hD,⟨p3,p5⟩,by rw[p4]; omega,by rw[p4]; omega⟩ λ_ hr => ?_
   obtain⟨o,ps,rfl,He,t1,t2,t3⟩:=hr
   exact zdc (zi ⟨λ_=>⟨⟨hD.1,hD.2.1,p1,by show o.length<=_; omega,t2,hD.2.2.2.2.2.1,He⟩,hV,f1,f2,by show v.length=_; omega,by show o.length=_; omega,by show ps.length=_; omega,l4,l5,l6⟩,V _⟩)
 ·have hz:m≠0/\n.length<=1:=hz
  refine uy (by simpa using hz.1) (z8W (zi ⟨λq=>absurd q hz.1,hz.2⟩))⟩
open T PL
abbrev N12:=List Bool×List Bool×List Bool×List Bool×List qk×List qk×List Int×List Int×List Lf.Rat×List Lf.Rat×List Lf.Rat×List Lf.Rat
abbrev N15:=Int×Unit×Unit×N12
def ra(l:List Lf.Rat):Prop:=∀ x∈l,rg x/\rl x<=1700
def pa(l:List qk):Prop:=∀ x∈l,Pn x
def Nw(m n p r s:Nat)(t:N12):Prop:=t.2.2.1.length=m/\t.2.2.2.1.length=n/\(pa t.2.2.2.2.2.1/\t.2.2.2.2.2.1.length=n)/\(ou t.2.2.2.2.2.2.2.1/\t.2.2.2.2.2.2.2.1.length=p)/\(ra t.2.2.2.2.2.2.2.2.2.2.1/\t.2.2.2.2.2.2.2.2.2.2.1.length=r)/\(ra t.2.2.2.2.2.2.2.2.2.2.2/\t.2.2.2.2.2.2.2.2.2.2.2.length=s)
theorem Je{α:Type}(l:List α)(x:α):(l++[x]).length=l.length+1:=qz
theorem cu1{α:Type}(l:List α)(x:α):zu (l.length+1) 0 (l.length+1) (l++[x]).length:=by rw[Je]; exact⟨rfl,rfl,rfl⟩
instance (f:Form):Sp (XK f) (F9 f) (λr=>(r.2.2.1=0->Dx f (D8 r))/\r.2.1.length<=1):=⟨λ⟨hF,hp⟩=>by
 have n0:=hF.1.1
 have n1:=hF.2.1.1
 have n2:=hF.2.2.2.1.1
 have n3:=hF.2.2.2.2.1.1
 unfold XK
 iterate 11 refine zj ⟨rfl,rfl,rfl⟩ ?_
 refine zj ⟨rfl,rfl,rfl⟩ (zj rfl ?_)
 iterate 11 refine zj rfl ?_
 refine xn (wm (P:=λz=>Nw 0 0 0 f.2.1.length 0 z.2.2) ?_ ?_)
 ·unfold VM
  refine vX (λz:N15=>∃ k:Nat,z.1=(k:Int)/\k<=f.2.1.length/\Nw 0 0 0 k 0 z.2.2.2) (λz:N15=>((f.2.1.length:Int)-z.1).toNat) ⟨0,rfl,Z,rfl,rfl,⟨nofun,rfl⟩,⟨nofun,rfl⟩,⟨nofun,rfl⟩,nofun,rfl⟩ ?_
  rintro⟨_,u,v,c,d,e,g,h,i,j,k,l,m,a,b⟩ ⟨n,rfl,h1,w1,w2,⟨w3,w4⟩,⟨w0,w5⟩,⟨w6,w7⟩,w8,w9⟩
  dsimp only at w0 w1 w2 w3 w4 w5 w6 w7 w8 w9
  unfold Zp
  refine zh (λJ => ?_) λJ => ?_
  ·have J:=uE J
   have hn:nth f.2.1 (n:Int) (zb qf)∈f.2.1:=xw (Z) J
   have q1:=hF.2.1.2 _ hn
   have q2:=hp _ hn
   have hw:qo ((n:Int)+1)=n+1:=qv (Z) (Z)
   refine qw ⟨Z,J⟩ (z8 ⟨q1.2.1,Y q2 (xm)⟩ λo ho => ?_)
   have q3:rl o<=max 1 (rl (nth f.2.1 (n:Int) (zb qf)).2.1):=ho.2.1
   repeat' (with_reducible first | refine za ?_ | refine ze ?_ | refine vY (Z) ?_ | refine zj (cu1 _ _) ?_ | refine zj (Je _ _).symm ?_ | refine zi ?_)
   rw[hw]
   exact⟨⟨n+1,rfl,Z,w1,w2,⟨w3,w4⟩,⟨w0,w5⟩,⟨yR w6 ⟨ho.1,Z⟩,by show(_++[_]).length=_; rw[Je]; omega⟩,w8,w9⟩,by simp only; omega⟩
  ·have J:=gZ J
   have e:n=f.2.1.length:=Z
   repeat' (with_reducible first | refine za ?_ | refine ze ?_)
   exact zi ⟨w1,w2,⟨w3,w4⟩,⟨w0,w5⟩,⟨w6,by show a.length=_; omega⟩,w8,w9⟩
 rintro⟨u,v,c,d,e,g,h,i,j,k,l,m,a,b⟩ ⟨w1,w2,⟨w3,w4⟩,⟨w0,w5⟩,⟨w6,w7⟩,w8,w9⟩
 dsimp only at w0 w1 w2 w3 w4 w5 w6 w7 w8 w9
 repeat' (with_reducible first | refine za ?_ | refine ze ?_)
 refine xn (wm (P:=λz=>Nw f.1.length 0 0 f.2.1.length 0 z.2.2) ?_ ?_)
 ·unfold VN
  refine vX (λz:N15=>∃ k:Nat,z.1=(k:Int)/\k<=f.1.length/\Nw k 0 0 f.2.1.length 0 z.2.2.2) (λz:N15=>((f.1.length:Int)-z.1).toNat) ⟨0,rfl,Z,w1,w2,⟨w3,w4⟩,⟨w0,w5⟩,⟨w6,w7⟩,w8,w9⟩ ?_
  rintro⟨_,u,v,c,d,e,g,h,i,j,k,l,m,a,b⟩ ⟨n,rfl,h1,w1,w2,⟨w3,w4⟩,⟨w0,w5⟩,⟨w6,w7⟩,w8,w9⟩
  dsimp only at w0 w1 w2 w3 w4 w5 w6 w7 w8 w9
  unfold Zq
  refine zh (λJ => ?_) λJ => ?_
  ·have J:=uE J
   have hw:qo ((n:Int)+1)=n+1:=qv (Z) (Z)
   refine qw ⟨Z,J⟩ ?_
   repeat' (with_reducible first | refine za ?_ | refine ze ?_ | refine vY (Z) ?_ | refine zj (cu1 _ _) ?_ | refine zj (Je _ _).symm ?_ | refine zi ?_)
   rw[hw]
   exact⟨⟨n+1,rfl,Z,by show(_++[_]).length=_; rw[Je]; omega,w2,⟨w3,w4⟩,⟨w0,w5⟩,⟨w6,w7⟩,w8,w9⟩,by simp only; omega⟩
  ·have J:=gZ J
   have e':n=f.1.length:=Z
   repeat' (with_reducible first | refine za ?_ | refine ze ?_)
   exact zi ⟨by show e.length=_; omega,w2,⟨w3,w4⟩,⟨w0,w5⟩,⟨w6,w7⟩,w8,w9⟩
 clear w0 w1 w2 w3 w4 w5 w6 w7 w8 w9
 rintro⟨u,v,c,d,e,g,h,i,j,k,l,m,a,b⟩ ⟨w1,w2,⟨w3,w4⟩,⟨w0,w5⟩,⟨w6,w7⟩,w8,w9⟩
 dsimp only at w0 w1 w2 w3 w4 w5 w6 w7 w8 w9
 repeat' (with_reducible first | refine za ?_ | refine ze ?_)
 refine xn (wm (P:=λz=>Nw f.1.length f.2.2.2.1.length 0 f.2.1.length f.2.2.2.1.length z.2.2) ?_ ?_)
 ·unfold VO
  refine vX (λz:N15=>∃ k:Nat,z.1=(k:Int)/\k<=f.2.2.2.1.length/\Nw f.1.length k 0 f.2.1.length k z.2.2.2) (λz:N15=>((f.2.2.2.1.length:Int)-z.1).toNat) ⟨0,rfl,Z,w1,w2,⟨w3,w4⟩,⟨w0,w5⟩,⟨w6,w7⟩,w8,w9⟩ ?_
  rintro⟨_,u,v,c,d,e,g,h,i,j,k,l,m,a,b⟩ ⟨n,rfl,h1,w1,w2,⟨w3,w4⟩,⟨w0,w5⟩,⟨w6,w7⟩,w8,w9⟩
  dsimp only at w0 w1 w2 w3 w4 w5 w6 w7 w8 w9
  unfold Zr
  refine zh (λJ => ?_) λJ => ?_
  ·have J:=uE J
   have hw:qo ((n:Int)+1)=n+1:=qv (Z) (Z)
   refine z8 ⟨xm,xm⟩ λp hp=>vY (Z) (z8 ⟨xm,xm⟩ λq hq => ?_)
   repeat' (with_reducible first | refine za ?_ | refine ze ?_ | refine vY (Z) ?_ | refine zj (cu1 _ _) ?_ | refine zj (Je _ _).symm ?_ | refine zi ?_)
   rw[hw]
   have hq1:rl q<=2:=hq.2
   exact⟨⟨n+1,rfl,Z,w1,by show(_++[_]).length=_; rw[Je]; omega,⟨yR w3 ⟨hq.1,Y hq1 (xm)⟩,by show(_++[_]).length=_; rw[Je]; omega⟩,⟨w0,w5⟩,⟨w6,w7⟩,yR w8 ⟨hp.1,Z⟩,by show(_++[_]).length=_; rw[Je]; omega⟩,by simp only; omega⟩
  ·have J:=gZ J
   have e:n=f.2.2.2.1.length:=Z
   repeat' (with_reducible first | refine za ?_ | refine ze ?_)
   exact zi ⟨w1,by show g.length=_; omega,⟨w3,by show i.length=_; omega⟩,⟨w0,w5⟩,⟨w6,w7⟩,w8,by show b.length=_; omega⟩
 clear w0 w1 w2 w3 w4 w5 w6 w7 w8 w9
 rintro⟨u,v,c,d,e,g,h,i,j,k,l,m,a,b⟩ ⟨w1,w2,⟨w3,w4⟩,⟨w0,w5⟩,⟨w6,w7⟩,w8,w9⟩
 dsimp only at w0 w1 w2 w3 w4 w5 w6 w7 w8 w9
 repeat' (with_reducible first | refine za ?_ | refine ze ?_)
 refine xn (wm (P:=λz=>Nw f.1.length f.2.2.2.1.length f.2.2.2.2.1.length f.2.1.length f.2.2.2.1.length z.2.2) ?_ ?_)
 ·unfold VP
  refine vX (λz:N15=>∃ k:Nat,z.1=(k:Int)/\k<=f.2.2.2.2.1.length/\Nw f.1.length f.2.2.2.1.length k f.2.1.length f.2.2.2.1.length z.2.2.2) (λz:N15=>((f.2.2.2.2.1.length:Int)-z.1).toNat) ⟨0,rfl,Z,w1,w2,⟨w3,w4⟩,⟨w0,w5⟩,⟨w6,w7⟩,w8,w9⟩ ?_
  rintro⟨_,u,v,c,d,e,g,h,i,j,k,l,m,a,b⟩ ⟨n,rfl,h1,w1,w2,⟨w3,w4⟩,⟨w0,w5⟩,⟨w6,w7⟩,w8,w9⟩
  dsimp only at w0 w1 w2 w3 w4 w5 w6 w7 w8 w9
  unfold Zs
  refine zh (λJ => ?_) λJ => ?_
  ·have J:=uE J
   have hw:qo ((n:Int)+1)=n+1:=qv (Z) (Z)
   repeat' (with_reducible first | refine za ?_ | refine ze ?_ | refine vY (Z) ?_ | refine zj (cu1 _ _) ?_ | refine zj (Je _ _).symm ?_ | refine zi ?_)
   rw[hw]
   exact⟨⟨n+1,rfl,Z,w1,w2,⟨w3,w4⟩,⟨yR w0 (xm),by show(_++[_]).length=_; rw[Je]; omega⟩,⟨w6,w7⟩,w8,w9⟩,by simp only; omega⟩
  ·have J:=gZ J
   have e:n=f.2.2.2.2.1.length:=Z
   repeat' (with_reducible first | refine za ?_ | refine ze ?_)
   exact zi ⟨w1,w2,⟨w3,w4⟩,⟨w0,by show k.length=_; omega⟩,⟨w6,w7⟩,w8,w9⟩
 clear w0 w1 w2 w3 w4 w5 w6 w7 w8 w9
 rintro⟨u,v,c,d,e,g,h,i,j,k,l,m,a,b⟩ ⟨w1,w2,⟨w3,w4⟩,⟨w0,w5⟩,⟨w6,w7⟩,w8,w9⟩
 dsimp only at w0 w1 w2 w3 w4 w5 w6 w7 w8 w9
 repeat' (with_reducible first | refine za ?_ | refine ze ?_)
 rw[cE,cE,cE,cE,cE,cE]
 refine z8 ⟨hF,⟨by show a.length<=_; omega,w6⟩,by show e.length<=_; omega,⟨by show b.length<=_; omega,w8⟩,by show k.length<=_; omega,⟨by show i.length<=_; omega,w3⟩,by show g.length<=_; omega,w0⟩ λr hr=>zdc (zi hr)⟩
open T PL
theorem mm{α A hI C:Type}{a:List A}{b:List hI}{c:List C}{t:T α}{Q:α->Prop}(k:t.wp Q):(oC a (oC b (oC c (U a (U b (U c t)))))).wp Q:=ze (ze (ze (za (za (za k)))))
theorem Lb{α:Type}{a:List α}{i:Nat}{d:α}(h:i<a.length):wi a i d∈a:=by unfold wi; rw[zA,zJ h]; exact zO h
instance (i:Int) (m:List Lf.Rat) (f:Form) (a:List vI) (b e:List Int):Sp (hJ i m f a b e) (Bt f a b e/\0<=i/\i<a.length/\rs m) (λr=>∃ q,r=(q,f,a,b,e)):=⟨λ⟨⟨h1,M,h3,h4⟩,g0,g1,hv⟩=>by
 have hc:ck (wi a (0+i.toNat) (zb zq)):=h1.2 _ (Lb (Z))
 have n1:=h1.1
 unfold hJ
 refine qw ⟨g0,g1⟩ (zj ⟨rfl,Z⟩ (qw ⟨g0,Z⟩ (zj ⟨rfl,Z⟩ (zh (λ_=>z8 ⟨hc,hv⟩ λo _=>mm (zi ⟨o,rfl⟩)) λ_ => ?_))))
 refine xn (wm (P:=λz=>∃ q,z=(q,f,a,b,e,wi a (0+i.toNat) (zb zq))) (zh (λ_=>z8 ⟨hc.1.2,Y (DT _) (Y hc.2.1 (xm))⟩ λq _=>mm (zi ⟨q,rfl⟩)) λ_=>mm (zi ⟨_,rfl⟩)) ?_)
 rintro _ ⟨q,rfl⟩
 dsimp only
 rw[cE,cE]
 have hB:Cw a/\b.length<=1000000:=⟨csw h1,Z⟩
 exact zh (λ_=>za (za (z8 hB λs _=>mm (zi ⟨s,rfl⟩)))) λ_=>zh (λ_=>za (za (z8 hB λs _=>mm (zi ⟨s,rfl⟩)))) λ_=>mm (zi ⟨_,rfl⟩)⟩
instance (a:Lf.Rat):Sp (bO a) (rg a/\rl a<=1700) (λr=>r=true->rl (norm a)<=16):=⟨λh=>by
 have h1:rl a<=5000000:=Y h.2 (xm)
 have M:rl a<=50000000:=Y h.2 (xm)
 unfold bO
 exact z8 ⟨h.1,h1⟩ λb _=>zh (λ_=>z8 ⟨h.1,M⟩ λc hc=>zi λe=>hc (by simpa using e)) λ_=>zi nofun⟩
instance (a:Lf.Rat):Sp (eW a) (rg a/\rl a<=1700) (λ_=>True):=⟨λh=>by
 unfold eW
 exact z8 h λb _=>zi trivial⟩
instance (a:qk):Sp (eX a) (Pn a) (λ_=>True):=⟨λh=>by
 have M:rl a.2.2.1<=50000000:=Y h.2 (xm)
 unfold eX J0
 exact z8 (s:=⟨λ_=>z8 h λb _=>zh (λ_=>zh (λ_=>zi trivial) λ_=>zh (λ_=>z8 ⟨h.1,M⟩ λc _=>zi trivial) λ_=>zi trivial) λ_=>zi trivial⟩) (pre:=True) (post:=λ_=>True) trivial λ_ _=>zi trivial⟩
instance (f:Form) (d:qe):Sp (QO f d) (FW 8200 f/\Dw d) (λr=>r=true->Dx f d):=⟨λ⟨hF,hD⟩=>by
 unfold QO
 refine z8 ⟨hF,hD⟩ λz hz => ?_
 have hv:d.2.2.1.length<=1000000000000:=Y hD.2.2.1.1 (xm)
 have hp:d.2.2.2.2.1.length<=1000000000000:=Y hD.2.2.2.2.1.1 (xm)
 rcases z with⟨k,a,b,c,e⟩ | ⟨n,m⟩
 ·obtain⟨rfl,rfl,hB,hV,f1,f2,l1,l2,l3,l4,l5,l6,-⟩:=hz
  have hX:Dx a d:=⟨hD,hV,f1,f2,l1,l2,l3,l4,l5,l6⟩
  have n1:=hB.1.1
  have n2:=hB.2.1
  have n3:=hB.2.2.1
  refine wM rfl (z8 ⟨hv,hD.2.2.1.2⟩ λx _=>zh (λ_=>zi nofun) λ_=>z8 ⟨hp,hD.2.2.2.2.1.2⟩ λy _=>zh (λ_=>zi nofun) λ_=>mm ?_)
  refine xn (wm (P:=λz=>z=.inl (a,b,c,e)\/∃ w,z=.inr (false,w)) ?_ ?_)
  ·unfold HA
   refine vX (λz:Int×Form×List vI×List Int×List Int=>∃ i:Int,z=(i,a,b,c,e)/\0<=i/\i<=d.2.2.2.1.length) (λz:Int×Form×List vI×List Int×List Int=>((d.2.2.2.1.length:Int)-z.1).toNat) ⟨0,rfl,xm,Z⟩ ?_
   rintro _ ⟨i,rfl,i0,i1⟩
   unfold UY
   refine zh (λJ => ?_) λJ=>ze (ze (ze (za (za (za (zi (.inl rfl)))))))
   have J:=uE J
   have hw:qo (i+1)=i+1:=qv (Z) (Z)
   refine qw ⟨i0,J⟩ (xn (wm (P:=λz=>∃ q,z=(q,a,b,c,e)) (zh (λ_=>za ?_) λ_=>mm (zi ⟨_,rfl⟩)) ?_))
   ·rw[cE]
    exact z8 (Z) λq _=>mm (zi ⟨_,rfl⟩)
   ·rintro _ ⟨q,rfl⟩
    refine zh (λ_=>mm (zi (.inr ⟨_,rfl⟩))) λ_=>mm (zi ?_)
    rw[hw]
    exact⟨⟨i+1,rfl,Z,Z⟩,by simp only; omega⟩
  ·rintro _ (rfl | ⟨w,rfl⟩)
   ·refine za (za ?_)
    rw[cE,cE]
    refine z8 ⟨csw hB.1,Z⟩ λn hn=>zh (λ_=>zi nofun) λ_=>mm ?_
    refine xn (wm (P:=λz=>True) ?_ λz _ => ?_)
    ·unfold HB
     refine vX (λz:Int×Form×List vI×List Int×List Int=>∃ i:Int,z=(i,a,b,c,e)/\0<=i/\i<=b.length) (λz:Int×Form×List vI×List Int×List Int=>((b.length:Int)-z.1).toNat) ⟨0,rfl,xm,Z⟩ ?_
     rintro _ ⟨i,rfl,i0,i1⟩
     unfold UZ
     refine zh (λJ=>mm ?_) λJ=>mm (zi trivial)
     have J:=uE J
     have hw:qo (i+1)=i+1:=qv (Z) (Z)
     refine z8 ⟨hB,i0,J,hD.2.2.1⟩ λ_ ⟨q,hq⟩ => ?_
     subst hq
     refine zh (λ_=>mm (zi trivial)) λ_=>mm (zi ?_)
     rw[hw]
     exact⟨⟨i+1,rfl,Z,Z⟩,by simp only; omega⟩
    ·rcases z with z | z
     ·exact zi λ_=>hX
     ·exact zi λ_=>hX
   ·exact zi nofun
 ·have hz:m≠0/\n.length<=1:=hz
  exact uy (by simpa using hz.1) (zi nofun)⟩
open T PL
theorem nz{p:Prop}{a:Int}(h:a≠0):a=0->p:=λq=>absurd q h
instance (a:Field) (s:zx):Sp (dF a s) True (λ_=>True):=⟨λ_=>by unfold dF; exact zi trivial⟩
instance (f:Form) (s:zx):Sp (tN f s) (f.2.2.2.1.length<=8200) (λr => -1<=r/\r<f.2.2.2.1.length):=⟨λh=>by
 unfold tN
 refine z8 ⟨Z,λ_ _=>trivial⟩ λr hr=>zi ?_
 rcases hr with⟨rfl,_⟩ | ⟨h1,M,_⟩<;>omega⟩
theorem z4V(a:uj)(h:Sys a)(b:Int):Sys (a.1,jG (e:=zq) 0 b a.2.1,jG (e:=.int .i64) 0 b a.2.2.1,jG (e:=.int .i64) 0 b a.2.2.2.1,()):=by
 obtain⟨⟨h1,M⟩,h3,h4,h5⟩:=h
 exact⟨⟨Y (List.length_take_le' ..) h1,λc hc=>M c (zF hc)⟩,by show(zK _ _).length=(zK _ _).length; rw[zH,zH,h3],by show(zK _ _).length=(zK _ _).length; rw[zH,zH,h4],λi hi=>h5 i (zF hi)⟩
instance (f:Form) (d:qe) (s:zx) (v:Lf.Rat):Sp (VL f d s v) (FW 8200 f/\Dw d/\rg v/\rl v<=1700) (λr=>(r.2.2=0->Dx f r.1)/\r.2.1.length<=1):=⟨λ⟨hF,hD,hv⟩=>by
 unfold VL
 refine z8 hF.2.2.2.1.1 λi hi=>z8 ⟨hF,hD⟩ λy hy=>zh (λ_=>zi ⟨nz (a:=1) (xm),V _⟩) λe=>zh (λ_=>zi ⟨nz (a:=5) (xm),V _⟩) λe2=>z8 hv λz _=>zh (λ_=>zi ⟨nz (a:=8) (xm),zT _⟩) λ_=>z8 ⟨hF,hD⟩ λw hw => ?_
 have i0:=gZ e2
 rcases w with⟨k,a,b,c,e⟩ | ⟨n,m⟩
 ·obtain⟨rfl,rfl,⟨b1,b2,b3,b4⟩,hV,f1,f2,l1,l2,l3,l4,l5,l6,l7⟩:=hw
  have i1:i<a.2.2.2.1.length:=hi.2
  have i2:0<=i:=Z
  have g1:a.2.2.2.1.length<=10000:=Z
  have g2:a.2.2.2.2.1.length<=10000:=Z
  refine wM rfl (mm (z8 ⟨hv,⟨b1,Z⟩,Z,Z,i2,i1,g1,g2,b4⟩ λ⟨a',p,q,r⟩ hr=>za (za (za ?_))))
  obtain⟨⟨r1,r2⟩,r3,⟨r4,r5⟩,r6⟩:=hr
  dsimp only at r1 r2 r3 r4 r5 r6
  subst r6
  rw[cE,cE,cE]
  refine z8 ⟨⟨r1,by show q.length=p.length; omega,by show r.length=p.length; omega,r5⟩,hD.2.2.1,g2,g1⟩ λ⟨A,hI,u,y⟩ hp => ?_
  dsimp only
  refine zh (λe=>zi ⟨nz (by simpa using e),hp.2⟩) λe => ?_
  obtain⟨p1,p2,p3,p4,p5,-⟩:=hp.1 (by simpa using e)
  dsimp only at p1 p2 p3 p4 p5
  have q1:y.2.1.length=b.length+1:=by rw[p5]; exact r2
  have q2:=p3.2.1
  have q3:=p3.2.2.1
  have q4:qo ((y.2.1.length:Int)-1)=b.length:=by rw[q1]; exact(qv (Z) (Z)).trans (Z)
  rw[q4]
  refine qw ⟨Z,Z⟩ (zh (λ_=>zi ⟨nz (a:=11) (xm),zT _⟩) λ_=>zj ⟨Z,Z,Z⟩ (zj ⟨Z,Z,Z⟩ (zj ⟨Z,Z,Z⟩ (z8 ⟨z4V y p3 b.length,p1,by show y.1.2.2.2.2.1.length<=_; rw[p4]; exact g2,by show y.1.2.2.2.1.length<=_; rw[p4]; exact g1⟩ λ⟨C,D,v,κ'⟩ hq => ?_))))
  refine zh (λe=>zi ⟨nz (by simpa using e),hq.2⟩) λe => ?_
  obtain⟨s1,s2,s3,s4,-,s5⟩:=hq.1 (by simpa using e)
  dsimp only at s1 s2 s3 s4 s5
  rw[p4]at s4
  refine z8 ⟨hD,⟨s3,s5⟩,by rw[s4]; exact l2,by rw[s4]; exact l3⟩ λ_ hr => ?_
  obtain⟨o,ps,rfl,He,t1,t2,t3⟩:=hr
  refine qw ⟨i2,by show i<d.2.2.2.2.2.1.length; omega⟩ (zj ⟨rfl,by show 0+i.toNat<d.2.2.2.2.2.1.length; omega⟩ (za (za (za (za (za (zi ⟨λ_ => ?_,V _⟩)))))))
  rw[cE,cE,cE,cE]
  have hs:(zQ 0 (zK (0+d.2.2.2.2.2.1.length) (List.set d.2.2.2.2.2.1 (0+i.toNat) true))).length=d.2.2.2.2.2.1.length:=qz
  have n4:=hD.2.2.2.1
  have n6:=hD.2.2.2.2.2.1
  exact⟨⟨hD.1,hD.2.1,s1,by show o.length<=_; omega,t2,by show(zQ 0 (zK (0+d.2.2.2.2.2.1.length) (List.set d.2.2.2.2.2.1 (0+i.toNat) true))).length<=_; omega,He⟩,hV,f1,f2,by show C.length=_; omega,by show o.length=_; omega,by show ps.length=_; omega,hs.trans l4,l5,l6⟩
 ·have hw:m≠0/\n.length<=1:=hw
  exact uy (by simpa using hw.1) (zi ⟨nz hw.1,hw.2⟩)⟩
open T PL
theorem z8V{α A hI C D κ' F:Type}{a:List A}{b:List hI}{c:List C}{d:List D}{e:List κ'}{f:List F}{t:T α}{Q:α->Prop}(k:t.wp Q):(oW a b c d e f t).wp Q :=
 za (za (za (za (za (za k)))))
instance (f:Form) (d:qe) (s:zx) (x:Bool):Sp (Zt f d s x) (FW 8200 f/\Dw d) (λr=>(r.2.2=0->Dx f r.1)/\r.2.1.length<=1):=⟨λ⟨hF,hD⟩=>by
 unfold Zt
 refine z8 hF.2.2.2.1.1 λi hi=>z8 ⟨hF,hD⟩ λy hy=>zh (λ_=>zi ⟨nz (a:=1) (xm),V _⟩) λe=>zh (λ_=>zi ⟨nz (a:=5) (xm),V _⟩) λe2 => ?_
 have i0:=gZ e2
 obtain⟨-,hV,f1,f2,l1,l2,l3,l4,l5,l6⟩:=hy (by simpa using e)
 have UP:=hi.2
 have j1:0<=i/\i<(d.2.2.2.2.1.length:Int):=Z
 have j2:0<=i/\i<(d.2.2.1.length:Int):=Z
 refine zj (λ_=>j1) (zh (λ_=>zi ⟨nz (a:=1) (xm),V _⟩) λ_=>zj (λ_=>j1) (zh (λ_=>zi ⟨nz (a:=12) (xm),V _⟩) λ_=>z8 hD λ_ e => ?_))
 subst e
 refine z8 ⟨xm,xm⟩ λk hk => ?_
 have mW:rl k<=2:=hk.2
 have hv:=D0 hD.2.2.1 i j2.1 j2.2
 have hD5:=hD.2.2.2.2.1
 have q1:=BS d.2.2.2.2.1 (0+i.toNat) (false,false,(k.1,k.2.1,k.2.2.1,()),()) hD5 hk.1 (Y mW (xm))
 have q2:=BS _ (0+i.toNat) (true,false,((nth d.2.2.1 i (zb zl)).1,(nth d.2.2.1 i (zb zl)).2.1,(nth d.2.2.1 i (zb zl)).2.2.1,()),()) q1 hv.1 hv.2
 dsimp only
 refine qw j1 (zj ⟨rfl,Z⟩ (xn (wm (P:=λz=>∃ (w:qe) (ps:List qk),z=(w,d.1,d.2.1,d.2.2.1,d.2.2.2.1,ps,d.2.2.2.2.2.1,())/\Ps ps/\ps.length=d.2.2.2.2.1.length) (zh (λ_=>qw j2 (qw j1 (zj ⟨rfl,by rw[List.length_set]; omega⟩ ?_))) λ_ => ?_) ?_)))
 ·exact za (za (za (za (zj (by rw[List.length_set,List.length_set]) (za (ze (ze (ze (ze (zj ⟨by rw[List.length_set,List.length_set],rfl,by rw[List.length_set,List.length_set]⟩ (ze (zi ⟨_,_,rfl,q2,by rw[List.length_set,List.length_set]⟩))))))))))))
 ·exact za (za (za (za (zj (by rw[List.length_set]) (za (ze (ze (ze (ze (zj ⟨by rw[List.length_set],rfl,by rw[List.length_set]⟩ (ze (zi ⟨_,_,rfl,q1,by rw[List.length_set]⟩))))))))))))
 ·rintro _ ⟨w,ps,rfl,hp,Yk⟩
  dsimp only
  rw[cE,cE,cE,cE,cE,cE]
  refine z8V (z8 ⟨hF,hD.1,hD.2.1,hD.2.2.1,hD.2.2.2.1,hp,hD.2.2.2.2.2⟩ λ⟨z,A,hI,r,s,t,u,v⟩ hr=>za (za (za (za (za (zi ?_))))))
  rw[cE,cE,cE,cE,cE]
  exact hr⟩
open T PL
instance (a b:List Int):Sp (jo a b) (a.length<=1000000) (λ_=>True):=⟨λh=>by
 unfold jo dU
 refine zh (λe=>zi trivial) λe => ?_
 have e:(a.length:Int)=b.length:=by simpa using e
 refine xn (wm (P:=λz=>True) ?_ λz hz => ?_)
 ·refine vX (σ:=Int) (λi=>0<=i/\i<=a.length) (λi=>(a.length-i).toNat) ⟨Z,Z⟩ λi hi => ?_
  unfold ga
  refine zh (λJ => ?_) λJ=>zi trivial
  have J:=uE J
  have hw:qo (i+1)=i+1:=qv (Z) (Z)
  refine qw ⟨hi.1,J⟩ (qw ⟨hi.1,Z⟩ (zh (λk=>zi trivial) λk=>zi ?_))
  rw[hw]; exact⟨⟨Z,Z⟩,Z⟩
 ·rcases z with z | z<;>exact zi trivial⟩
theorem SK{a:Lf.Rat}:a.2.1.length<=rl a/\a.2.2.1.length<=rl a:=by unfold rl; omega
instance (a b:Lf.Rat):Sp (Xl a b) (rg a/\rg b/\rl a<=20700/\rl b<=20700) (λ_=>True):=⟨λ⟨h1,M,h3,h4⟩=>by
 unfold Xl
 refine z8 ⟨h1,Y h3 (xm)⟩ λx N=>z8 ⟨M,Y h4 (xm)⟩ λy _=>zh (λ_ => ?_) λ_=>zi trivial
 have l1:=(SK (a:=x)).1
 have l2:=(SK (a:=x)).2
 have l3:=N.2.1
 exact z8 (Z) λc _=>zh (λ_=>z8 (Z) λd _=>zi trivial) λ_=>zi trivial⟩
instance (a b:vI):Sp (VA a b) (ck a/\ck b) (λ_=>True):=⟨λ⟨ha,I⟩=>by
 have ka:=Y (DT a) ha.2.1
 have kb:=Y (DT b) I.2.1
 unfold VA
 refine zh (λ_=>z8 ⟨ha.1.2,I.1.2,ka,kb⟩ λc _=>zh (λ_=>xn (wm (P:=λ_=>True) ?_ λ_ _=>zi trivial)) λ_=>zi trivial) λ_=>zi trivial
 unfold jm yq
 refine zh (λe=>zi trivial) λe => ?_
 have e:(a.2.1.length:Int)=b.2.1.length:=by simpa using e
 have n1:=ha.2.2
 refine xn (wm (P:=λz=>True) ?_ λz hz => ?_)
 ·refine vX (σ:=Int) (λi=>0<=i/\i<=a.2.1.length) (λi=>(a.2.1.length-i).toNat) ⟨Z,Z⟩ λi hi => ?_
  unfold uT
  refine zh (λJ => ?_) λJ=>zi trivial
  have J:=uE J
  have hw:qo (i+1)=i+1:=qv (Z) (Z)
  have m1:nth a.2.1 i (zb qj)∈a.2.1:=xw hi.1 J
  have m2:nth b.2.1 i (zb qj)∈b.2.1:=xw hi.1 (Z)
  have c1:tb a.2.1<=cb a:=by unfold cb; omega
  have c2:tb b.2.1<=cb b:=by unfold cb; omega
  have r1:=Y (Y (Xw m1) c1) ha.2.1
  have r2:=Y (Y (Xw m2) c2) I.2.1
  refine qw ⟨hi.1,J⟩ (qw ⟨hi.1,Z⟩ (xn (wm (P:=λ_=>True) ?_ λd _=>zh (λk=>zi trivial) λk=>zi ?_)))
  ·unfold mK
   exact zh (λ_=>z8 ⟨ha.1.1 _ m1,I.1.1 _ m2,r1,r2⟩ λc _=>zi trivial) λ_=>zi trivial
  ·rw[hw]; exact⟨⟨Z,Z⟩,Z⟩
 ·rcases z with z | z<;>exact zi trivial⟩
open T PL
abbrev X5:=List Lf.Rat×List Bool×List Lf.Rat×List qk×List Bool×Unit
abbrev xd(x:X5)(a:List Int):qe:=(x.1,x.2.1,x.2.2.1,a,x.2.2.2.1,x.2.2.2.2.1,())
instance (f:Form) (d:X5) (rw:List Int):Sp (ef f d rw) (FW 8200 f/\Dw (xd d rw)) (λr=>match r with | .inl (k,y,a,b,c,e)=>k=0/\y=rw/\a=f/\Bt f b c e | .inr (n,k,_)=>k≠0/\n.length<=1):=⟨λ⟨hF,hD⟩=>by
 unfold ef
 rw[cE]
 refine za (z8 trivial λo ho=>zh (λ_=>za (zi ⟨xm,V _⟩)) λe => ?_)
 have ho:d.2.2.1.length=f.2.2.2.1.length/\rw.length=f.2.2.2.2.1.length/\d.2.2.2.1.length=f.2.2.2.1.length/\d.2.2.2.2.1.length=f.2.2.2.1.length:=ho (by simpa using e)
 have hPn:Ps d.2.2.2.1:=hD.2.2.2.2.1
 refine z8 ⟨hF,hD.1,hD.2.1⟩ λ⟨p,n,k,g,b⟩ hz=>zh (λe=>za (zi ⟨by simpa using(qG.1 e).1,zT _⟩)) λ_=>zh (λe=>za (zi ⟨by simpa using e,V _⟩)) λe => ?_
 obtain⟨hg,I,hgb,zbu,hz⟩:=hz
 obtain⟨hV,h1,M,h3,h4⟩:=hz (by simpa using e)
 dsimp only at hg I hgb zbu
 refine ze (za (ze (za (za (ze (zj ⟨rfl,rfl,rfl⟩ (ze (zj rfl (xn (wm (P:=λz=>∃ c:List Int,z=(rw,d,g,b,(),f,c)/\c.length=b.length) ?_ ?_))))))))))
 ·unfold tL
  refine vX (λz:Int×List Int×X5×List vI×List Int×Unit×Form×List Int=>∃ (i:Int) (c:List Int),z=(i,rw,d,g,b,(),f,c)/\0<=i/\i<=b.length/\(c.length:Int)=i) (λz:Int×List Int×X5×List vI×List Int×Unit×Form×List Int=>((b.length:Int)-z.1).toNat) ⟨0,[],rfl,xm,Z,rfl⟩ ?_
  rintro _ ⟨i,c,rfl,i0,i1,hc⟩
  unfold lO
  refine zh (λJ => ?_) λJ => ?_
  ·have J:=uE J
   have hn:=Cz _ _ (0+i.toNat) I (Z)
   have hw:qo (i+1)=i+1:=qv (Z) (Z)
   have Yi:wi b (0+i.toNat) (zb (.int .i64))<rw.length:=by have:=hn.2; have:=ho.2.1; omega
   refine qw ⟨i0,J⟩ (zj ⟨rfl,Z⟩ (qw ⟨hn.1,Yi⟩ (zj ⟨rfl,Z⟩ (vY (Z) (ze (za (ze (za (za (ze (zj (cu1 _ _) (ze (zj (Je _ _).symm (zi ?_))))))))))))))
   rw[hw]
   exact⟨⟨i+1,_,rfl,Z,Z,by rw[Je]; omega⟩,by simp only; omega⟩
  ·have J:=gZ J
   exact za (ze (za (za (ze (ze (ze (za (zi ⟨c,rfl,Z⟩))))))))
 ·rintro _ ⟨c,rfl,hc⟩
  refine za (ze (za (za (ze (ze (ze (za (xn (wm (P:=λz=>∃ (x:List vI) (y q:List Int),z=(rw,d,x,y,(),f,q)/\Bt f x q y) ?_ ?_)))))))))
  ·unfold tM
   have hP3:=ho.2.2.1
   refine vX (λz:Int×List Int×X5×List vI×List Int×Unit×Form×List Int=>∃ (i:Int) (x:List vI) (y q:List Int),z=(i,rw,d,x,y,(),f,q)/\0<=i/\i<=d.2.2.2.1.length/\Bt f x q y/\(x.length:Int)<=64+i) (λz:Int×List Int×X5×List vI×List Int×Unit×Form×List Int=>((d.2.2.2.1.length:Int)-z.1).toNat) ⟨0,_,_,_,rfl,xm,Z,⟨hg,Z,Z,z9L _ _ _ I (Z)⟩,Z⟩ ?_
   rintro _ ⟨i,x,y,c,rfl,i0,i1,hB,N⟩
   obtain⟨b1,b2,b3,b4⟩:=hB
   unfold lP
   refine zh (λJ => ?_) λJ => ?_
   ·have J:=uE J
    have hp:=I3 d.2.2.2.1 i hPn i0 J
    have hw:qo (i+1)=i+1:=qv (Z) (Z)
    refine qw ⟨i0,J⟩ (zh (λ_=>za (ze (za (za (ze (ze (ze (za (zi ?_))))))))) λ_ => ?_)
    ·rw[hw]
     exact⟨⟨i+1,_,_,_,rfl,Z,Z,⟨b1,b2,b3,b4⟩,Z⟩,by simp only; omega⟩
    ·have q1:i<f.2.2.2.1.length:=Z
     have q2:f.2.2.2.1.length<=10000:=Z
     have q3:f.2.2.2.2.1.length<=10000:=Z
     refine mm (z8 ⟨hp,⟨b1,Z⟩,Z,Z,i0,q1,q2,q3,b4⟩ λ⟨e,p,q,r⟩ hr=>za (ze (za (za (ze (ze (ze (za (zi ?_)))))))))
     obtain⟨⟨r1,r2⟩,r3,⟨r4,r5⟩,r6⟩:=hr
     dsimp only at r1 r2 r3 r4 r5 r6
     subst r6
     rw[hw]
     exact⟨⟨i+1,p,r,q,rfl,Z,Z,⟨r1,Z,Z,r5⟩,Z⟩,by simp only; omega⟩
   ·exact za (ze (za (za (ze (ze (ze (za (zi ⟨x,y,c,rfl,b1,b2,b3,b4⟩))))))))
  ·rintro _ ⟨x,y,q,rfl,hB⟩
   exact za (mm (zi ⟨rfl,rfl,rfl,hB⟩))⟩
open T PL
instance (b:List Int) (c:Int):Sp (uG b c) (b.length<=1000000) (λr=>r<b.length):=⟨λh=>by
 unfold uG yi
 refine xn (wm (P:=λz:Unit⊕Int=>z.elim (λ_=>True) λr:Int=>r<(b.length:Int)) ?_ λz hz => ?_)
 ·refine vX (σ:=Int) (λi=>0<=i/\i<=b.length) (λi=>(b.length-i).toNat) ⟨Z,Z⟩ λi hi => ?_
  unfold yj
  refine zh (λJ => ?_) λJ=>zi trivial
  have J:=uE J
  have hw:qo (i+1)=i+1:=qv (Z) (Z)
  refine qw ⟨hi.1,J⟩ (zh (λk=>zi J) λk=>zi ?_)
  rw[hw]; exact⟨⟨Z,Z⟩,Z⟩
 ·rcases z with z | z
  ·exact zi (by show(-1:Int)<_; omega)
  ·exact zi hz⟩
abbrev Z12:=Int×List Int×X5×qe×Form×List vI×List Int×List Int×Form×List vI×List Int×List Int
theorem z8X{α A:Type}{f:List A}{a b:List vI}{g c h d:List Int}{t:T α}{Q:α->Prop}(k:t.wp Q):(U f (oC f (oC a (oC g (oC c (U a (U g (U c (oC b (oC h (oC d (U b (U h (U d t)))))))))))))).wp Q :=
 za (ze (mm (mm k)))
instance (f:Form) (d:qe) (u:Unit) (a1:List Lf.Rat) (a2:List Bool) (a3:List Lf.Rat) (a4:List Int) (a5:List qk) (a6:List Bool):Sp (fN f d u a1 a2 a3 a4 a5 a6) (FW 8200 f/\Dw d/\Dw (a1,a2,a3,a4,a5,a6,())) (λr=>(r.2.2.1=0->Dx f (D8 r))/\r.2.1.length<=1):=⟨λ⟨hF,hD,hE⟩=>by
 unfold fN
 rw[cE,cE,cE,cE,cE]
 dsimp only
 refine z8 ⟨hF,hD⟩ λz hz => ?_
 have hE':Dw (xd (a1,a2,a3,a5,a6,()) a4):=hE
 rcases z with⟨k,a,b,c,e⟩ | ⟨n,m⟩
 ·obtain⟨rfl,rfl,⟨b1,b2,b3,b4⟩,-⟩:=hz
  refine wM rfl (za (za (za (za (za (ze (za (z8 ⟨hF,hE'⟩ λw hw => ?_))))))))
  rcases w with⟨k,y,v,b',c',e'⟩ | ⟨n,m,x⟩
  ·obtain⟨rfl,rfl,rfl,⟨d1,d2,d3,d4⟩⟩:=hw
   have n1:=b1.1
   have n2:=d1.1
   have n4:y.length<=1000000000:=hE.2.2.2.1
   refine wM rfl (za (zj ⟨rfl,rfl,rfl⟩ (mm (mm (xn (wm (P:=λz=>∃ (o:List Int) (w:qe),z=(o,(a1,a2,a3,a5,a6,()),w,v,b,c,e,v,b',c',e')/\ou o/\o.length=y.length) ?_ ?_))))))
   ·unfold Ql
    refine vX (λz:Z12=>∃ (i:Int) (o:List Int) (w:qe),z=(i,o,(a1,a2,a3,a5,a6,()),w,v,b,c,e,v,b',c',e')/\(ou o/\o.length=y.length)/\0<=i/\i<=y.length) (λz:Z12=>((y.length:Int)-z.1).toNat) ⟨0,_,_,rfl,⟨hE.2.2.2.2.2.2,rfl⟩,xm,Z⟩ ?_
    rintro _ ⟨i,o,w,rfl,⟨hoo,ho⟩,i0,i1⟩
    unfold nL
    dsimp only
    refine zh (λJ=>za ?_) λJ=>z8X (zi ⟨o,w,rfl,hoo,ho⟩)
    have J:=uE J
    have hw:qo (i+1)=i+1:=qv (Z) (Z)
    rw[cE]
    refine z8 (Z) λv1 hv1=>za ?_
    rw[cE]
    refine z8 (Z) λv2 EG=>xn (wm (P:=λz=>∃ q:Bool,z=(q,o,(a1,a2,a3,a5,a6,()),w,v,b,c,e,v,b',c',e')) (zh (λ_=>z8X (zi ⟨_,rfl⟩)) λg1=>zh (λ_=>z8X (zi ⟨_,rfl⟩)) λg2 => ?_) ?_)
    ·have g1:=gZ g1
     have g2:=gZ g2
     refine qw ⟨Z,Z⟩ (zj ⟨rfl,Z⟩ (qw ⟨Z,Z⟩ (zj ⟨rfl,Z⟩ (z8 ⟨b1.2 _ (Lb (Z)),d1.2 _ (Lb (Z))⟩ λq _=>z8X (zi ⟨_,rfl⟩)))))
    ·rintro _ ⟨q,rfl⟩
     dsimp only
     refine zh (λ_=>qw ⟨i0,Z⟩ (zj ⟨rfl,Z⟩ (zj (by rw[List.length_set]) (zj ⟨by rw[List.length_set],rfl,by rw[List.length_set]⟩ (mm (mm (zi ?_))))))) λ_=>za (ze (mm (mm (zi ?_))))
     ·rw[hw]
      exact⟨⟨i+1,_,w,rfl,⟨Lp hoo _ (xm),by rw[List.length_set]; exact ho⟩,Z,Z⟩,by simp only; omega⟩
     ·rw[hw]
      exact⟨⟨i+1,o,w,rfl,⟨hoo,ho⟩,Z,Z⟩,by simp only; omega⟩
   ·rintro _ ⟨o,w,rfl,hoo,ho⟩
    dsimp only
    rw[cE]
    exact za (z8 ⟨hF,hE.1,hE.2.1,hE.2.2.1,by show o.length<=_; omega,hE.2.2.2.2.1,hE.2.2.2.2.2.1,hoo⟩ λr hr=>zdc (zi hr))
  ·have hw:m≠0/\n.length<=1:=hw
   exact uy (by simpa using hw.1) (z8W (zi ⟨nz hw.1,hw.2⟩))
 ·have hz:m≠0/\n.length<=1:=hz
  exact uy (by simpa using hz.1) (z8W (zi ⟨nz hz.1,hz.2⟩))⟩
instance (a:Param) (s:zx):Sp (gq a s) True (λ_=>True):=⟨λ_=>by unfold gq; exact zi trivial⟩
instance (a:Switch) (s:zx):Sp (yt a s) True (λ_=>True):=⟨λ_=>by unfold yt; exact zi trivial⟩
theorem D8e{z:List Lf.Rat×Unit}{w:List zx}{x:Int}{h:List Lf.Rat}{i:List Bool}{j:List Int}{k:List qk}{l:List Bool}{Q:qe×List zx×Int->Prop}(hr:Q ((h,i,z.1,j,k,l,()),w,x)):(U h (U i (U j (U k (U l (T.ret ((zQ 0 (zK (0+h.length) h),zQ 0 (zK (0+i.length) i),z.1,zQ 0 (zK (0+j.length) j),zQ 0 (zK (0+k.length) k),zQ 0 (zK (0+l.length) l),()),w,x))))))).wp Q:=by
 rw[cE,cE,cE,cE,cE]
 exact za (za (za (za (za (zi hr)))))
instance (f:Form) (d:qe) (s:zx) (v:Lf.Rat):Sp (ot f d s v) (FW 8200 f/\Dw d/\rg v/\rl v<=1700) (λr=>(r.2.2=0->Dx f r.1)/\r.2.1.length<=1):=⟨λ⟨hF,hD,hv⟩=>by
 unfold ot
 refine z8 ⟨by have:=hF.2.1.1; omega,λ_ _=>trivial⟩ λi hi=>z8 ⟨hF,hD⟩ λy hy=>zh (λ_=>zi ⟨nz (a:=1) (xm),V _⟩) λe=>zh (λ_=>zi ⟨nz (a:=5) (xm),V _⟩) λe2=>z8 hv λz _=>zh (λ_=>zi ⟨nz (a:=8) (xm),zT _⟩) λ_=>z8 hD λ_ e3=>z8 ⟨hv.1,Y hv.2 (xm)⟩ λn hn => ?_
 subst e3
 have i0:=gZ e2
 obtain⟨-,hV,f1,f2,l1,l2,l3,l4,l5,l6⟩:=hy (by simpa using e)
 have UP:i<f.2.1.length:=by rcases hi with⟨h,_⟩ | ⟨_,h,_⟩<;>omega
 have Cp:=hn.2.1
 have j1:0<=i/\i<(d.1.length:Int):=Z
 have hs:=D1 d.1 (0+i.toNat) n hD.1 hn.1 (Z)
 dsimp only
 exact qw j1 (zj ⟨rfl,Z⟩ (zj ⟨by rw[List.length_set],rfl,by rw[List.length_set]⟩ (ze (ze (ze (ze (ze (zj (by rw[List.length_set]) (za (za (za (za (za (z8 ⟨hF,hD,hs,hD.2⟩ λ⟨z,w,x,h,i,j,k,l⟩ hr=>D8e hr))))))))))))))⟩
instance (f:Form) (d:qe) (s:zx) (v:Bool):Sp (my f d s v) (FW 8200 f/\Dw d) (λr=>(r.2.2=0->Dx f r.1)/\r.2.1.length<=1):=⟨λ⟨hF,hD⟩=>by
 unfold my
 refine z8 ⟨by have:=hF.1.1; omega,λ_ _=>trivial⟩ λi hi=>z8 ⟨hF,hD⟩ λy hy=>zh (λ_=>zi ⟨nz (a:=1) (xm),V _⟩) λe=>zh (λ_=>zi ⟨nz (a:=5) (xm),V _⟩) λe2=>z8 hD λ_ e3 => ?_
 subst e3
 have i0:=gZ e2
 obtain⟨-,hV,f1,f2,l1,l2,l3,l4,l5,l6⟩:=hy (by simpa using e)
 have UP:i<f.1.length:=by rcases hi with⟨h,_⟩ | ⟨_,h,_⟩<;>omega
 have j1:0<=i/\i<(d.2.1.length:Int):=Z
 dsimp only
 exact qw j1 (zj ⟨rfl,Z⟩ (ze (zj ⟨by rw[List.length_set],rfl,by rw[List.length_set]⟩ (ze (ze (ze (ze (za (zj (by rw[List.length_set]) (za (za (za (za (z8 ⟨hF,hD,hD.1,by show(List.set d.2.1 _ v).length<=_; rw[List.length_set]; exact hD.2.1,hD.2.2⟩ λ⟨z,w,x,h,i,j,k,l⟩ hr=>D8e hr))))))))))))))⟩
open T PL
instance (a:Switch) (s:eK):Sp (yv a s) True (λ_=>True):=⟨λ_=>by unfold yv; exact zi trivial⟩
instance (a:eK) (s:zx):Sp (dM a s) True (λ_=>True):=⟨λ_=>by unfold dM; exact zi trivial⟩
instance (f:Form) (l:List Bool):Sp (kf f l) (FW 8200 f) (λr=>r.length=f.2.2.1.length):=⟨λhF=>by
 have n1:=hF.1.1
 have n2:=hF.2.2.1.1
 unfold kf Z3
 refine zj ⟨rfl,rfl,rfl⟩ (zj rfl (xn (wm (P:=λz=>z.length=f.2.2.1.length) ?_ λz hz=>za (zi (by rw[cE]; exact hz)))))
 refine vX (σ:=Int×List Bool) (λz=>0<=z.1/\z.1<=f.2.2.1.length/\(z.2.length:Int)=z.1) (λz=>(f.2.2.1.length-z.1).toNat) ⟨xm,Z,rfl⟩ ?_
 rintro⟨i,a⟩ ⟨i0,i1,R⟩
 dsimp only at i0 i1 R
 unfold mc
 refine zh (λJ => ?_) λJ=>ze (za (zi (by have:=gZ J; show a.length=_; omega)))
 have J:=uE J
 have hw:qo (i+1)=i+1:=qv (Z) (Z)
 have fin:∀ b:Bool,(oA a 1 (oM (a.length+1) (a++[b]).length (T.ret (.inl (qo (i+1),a++[b])):T ((Int×List Bool)⊕List Bool)))).wp λz=>match z with | .inl s'=>(0<=s'.1/\s'.1<=f.2.2.1.length/\(s'.2.length:Int)=s'.1)/\(f.2.2.1.length-s'.1).toNat<(f.2.2.1.length-i).toNat | .inr y=>y.length=f.2.2.1.length:=λb=>by
  refine vY (Z) (uo (Je _ _).symm (zi ?_))
  rw[hw]
  exact⟨⟨by show 0<=i+1; omega,by show i+1<=_; omega,by show((a++[b]).length:Int)=i+1; rw[Je]; omega⟩,by simp only; omega⟩
 refine qw ⟨i0,J⟩ (z8 ⟨Z,λ_ _=>trivial⟩ λc _=>zh (λ_=>fin _) λ_=>zh (λh0=>zh (λh1=>qw ⟨uE h0,uE h1⟩ (fin _)) λ_=>fin _) λ_=>fin _)⟩
def pl(i:Int):Prop:=0<=i/\i<=8200
theorem Mp(l:List Bool)(a:Int)(ha:pl a):∀ n:Nat,n<=8200->pl (nC l a n).1
 | 0,_=>ha
 | n+1,h=>by
  unfold nC
  split
  ·exact⟨by show(0:Int)<=n; omega,by show(n:Int)<=8200; omega⟩
  ·exact Mp l a ha n (Z)
instance (f:Form) (l:List Bool) (a:Int):Sp (pj f l a) (FW 8200 f/\pl a) (λr=>pl r.1):=⟨λ⟨hF,ha⟩=>by
 have n2:=hF.2.2.1.1
 unfold pj
 exact z8 hF λr hr=>zj (Z) (zi (Mp r a ha _ (Z)))⟩
instance (f:Form) (l:List Bool) (a:Int):Sp (pn f l a) (FW 8200 f/\pl a) (λr=>pl r.1):=⟨λ⟨hF,ha⟩=>by
 have n2:=hF.2.2.1.1
 unfold pn Ut
 refine z8 hF λr hr=>xn (wm (P:=λz:Unit⊕(Int×Bool)=>z.elim (λ_=>True) λr=>pl r.1) ?_ λz hz => ?_)
 ·refine vX (σ:=Int) (λi=>0<=i/\i<=r.length) (λi=>(r.length-i).toNat) ⟨Z,Z⟩ λi hi => ?_
  unfold ZX
  refine zh (λJ => ?_) λJ=>zi trivial
  have J:=uE J
  have hw:qo (i+1)=i+1:=qv (Z) (Z)
  refine qw ⟨hi.1,J⟩ (zh (λk=>zi ⟨hi.1,by show i<=8200; omega⟩) λk=>zi ?_)
  rw[hw]; exact⟨⟨Z,Z⟩,Z⟩
 ·rcases z with z | z
  ·exact zi ha
  ·exact zi hz⟩
instance (f:Form) (l:List Bool) (a:Int):Sp (Z2 f l a) (FW 8200 f/\pl a) (λr=>pl r):=⟨λ⟨hF,ha⟩=>by
 unfold Z2
 refine z8 hF λr hr=>zj (λh0 h1=>⟨uE h0,uE h1⟩) (zh (λ_=>zi ha) λ_=>z8 ⟨hF,ha⟩ λx N=>zh (λ_=>zi N) λ_=>z8 ⟨hF,ha⟩ λy hy=>zh (λ_=>zi hy) λ_=>zi ⟨xm,xm⟩)⟩
instance (f:Form) (l:List Bool) (s:zx):Sp (XZ f l s) (FW 8200 f) (λr=>r.2=0->pl r.1):=⟨λhF=>by
 have n2:=hF.2.2.1.1
 unfold XZ
 refine z8 ⟨Z,λ_ _=>trivial⟩ λi hi=>zh (λ_=>zi (nz (a:=5) (xm))) λh0=>z8 hF λr hr => ?_
 have h0:=gZ h0
 have h1:i<f.2.2.1.length:=by rcases hi with⟨h,_⟩ | ⟨_,h,_⟩<;>omega
 exact qw ⟨Z,Z⟩ (zh (λ_=>zi (nz (a:=12) (xm))) λ_=>zi λ_=>⟨by show 0<=i; omega,by show i<=8200; omega⟩)⟩
def sL(l:List zx):Prop:=∀ s∈l,s.length<=1000000000
def Hw(h:uF):Prop:=h.1.length+h.2.1.length<=32/\sL h.1/\sL h.2.1
instance (l:List zx):Sp (wR l) (l.length<=1000) (λr=>r=l):=⟨λh=>by
 unfold wR
 refine zj (λe r h => ?_) (zj ⟨rfl,rfl,rfl,Z⟩ (uo (Z) (zi rfl)))
 subst e
 exact⟨⟨rfl,rfl,rfl⟩,rfl,h.2.2.2⟩⟩
instance (l:List zx):Sp (wQ l) (l.length<=1000) (λr=>r=l):=⟨λh=>by
 unfold wQ
 dsimp only
 refine zj (λe r h => ?_) (zj ⟨rfl,rfl,rfl,Z⟩ (zj rfl (zi (by rw[Nat.zero_add]; exact cE l))))
 subst e
 exact h.2.2⟩
instance (h:uF) (s:zx):Sp (XN h s) (Hw h/\s.length<=1000000000) (λr=>Hw r/\r.1.length=min 32 (h.1.length+1)/\r.2.1.length=0):=⟨λ⟨⟨h1,M,h3⟩,hs⟩=>by
 unfold XN
 refine z8 (Z) λc hc => ?_
 subst hc
 dsimp only
 have R:∀ n:Nat,n<=33->∃ k:Nat,l8 0 (qo ((n:Int)-32))=k/\k<=n/\n-k=min 32 n:=λn hn=>by
  rw[qv (Z) (Z)]
  unfold l8
  split
  ·exact⟨n-32,Z,Z,Z⟩
  ·exact⟨0,Z,Z,Z⟩
 obtain⟨k,k1,k2,k3⟩:=R (h.1.length+1) (Z)
 rw[k1]
 refine vY (Z) (zj ⟨Z,Z,Z⟩ (zj rfl (zi ⟨⟨?_,λx N => ?_,nofun⟩,?_,rfl⟩)))
 ·show(zQ _ (zK _ _)).length+0<=32
  rw[List.length_drop,zH]
  omega
 ·rcases zG.1 (zF (List.mem_of_mem_drop N))with q | q
  ·exact M x q
  ·rw[zE.1 q]; exact hs
 ·show(zQ _ (zK _ _)).length=_
  rw[List.length_drop,zH,Je]
  omega⟩
instance (b f:List zx) (s:zx):Sp (tU b f s) (1<=b.length/\b.length+f.length<=32/\sL b/\sL f/\s.length<=1000000000) (λr=>r.1.length+1=b.length/\r.2.1.length=f.length+1/\sL r.1/\sL r.2.1/\r.2.2.length<=1000000000):=⟨λ⟨h0,h1,M,h3,h4⟩=>by
 have hw:qo ((b.length:Int)-1)=((b.length-1:Nat):Int):=by rw[qv (Z) (Z)]; omega
 unfold tU
 rw[hw]
 have hc:(jG (e:=.str) 0 ((b.length-1:Nat):Int) b)=b.take (b.length-1):=rfl
 have R:(b.take (b.length-1)).length=b.length-1:=by rw[zH]; omega
 refine zj ⟨xm,Z,Z⟩ (z8 (by rw[hc]; omega) λx N=>z8 (Z) λy hy => ?_)
 subst N hy
 refine vY (Z) (qw ⟨Z,Z⟩ (za (zj rfl (zi ?_))))
 rw[cE,hc]
 have e2:zQ 0 (zK (0+(y.length+1)) (y++[s]))=y++[s]:=by rw[<- Je y s]; exact cE _
 rw[e2]
 refine⟨by show(b.take _).length+1=_; omega,Je _ _,λx N=>M x (zF N),yR h3 h4,M _ (xw (Z) (Z))⟩⟩
instance (h:uF) (s:zx):Sp (tT h s) (Hw h/\s.length<=1000000000) (λr=>(Hw r.1/\r.2.1.length<=1000000000)/\(r.2.2=true->r.1.1.length+1=h.1.length/\r.1.2.1.length=h.2.1.length+1)):=⟨λ⟨⟨h1,M,h3⟩,hs⟩=>by
 unfold tT
 refine zh (λ_=>z8 (Z) λx N=>z8 (Z) λy hy=>zi ?_) λe=>z8 ⟨by have:=beq_eq_false_iff_ne.1 e; omega,h1,M,h3,hs⟩ λz hz=>zi ?_
 ·subst N hy; exact⟨⟨⟨h1,M,h3⟩,V _⟩,nofun⟩
 ·exact⟨⟨⟨by show z.1.length+z.2.1.length<=32; omega,hz.2.2.1,hz.2.2.2.1⟩,hz.2.2.2.2⟩,λ_=>⟨hz.1,hz.2.1⟩⟩⟩
instance (h:uF) (s:zx):Sp (tS h s) (Hw h/\s.length<=1000000000) (λr=>(Hw r.1/\r.2.1.length<=1000000000)/\(r.2.2=true->r.1.1.length=h.1.length+1/\r.1.2.1.length+1=h.2.1.length)):=⟨λ⟨⟨h1,M,h3⟩,hs⟩=>by
 unfold tS
 refine zh (λ_=>z8 (Z) λx N=>z8 (Z) λy hy=>zi ?_) λe=>z8 ⟨by have:=beq_eq_false_iff_ne.1 e; omega,Z,h3,M,hs⟩ λz hz=>zi ?_
 ·subst N hy; exact⟨⟨⟨h1,M,h3⟩,V _⟩,nofun⟩
 ·exact⟨⟨⟨by show z.2.1.length+z.1.length<=32; omega,hz.2.2.2.1,hz.2.2.1⟩,hz.2.2.2.2⟩,λ_=>⟨hz.2.1,hz.1⟩⟩⟩
end Go.AM.Lf
