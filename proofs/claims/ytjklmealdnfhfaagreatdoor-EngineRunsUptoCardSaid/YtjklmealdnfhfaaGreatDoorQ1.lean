/-
  Plain laws of the lifted program, part 1.
-/
import Derived.Test.YtjklmealdnfhfaaGreatDoorLf1
import Derived.Test.YtjklmealdnfhfaaGreatDoorAmA
import Derived.Test.YtjklmealdnfhfaaGreatDoorAmD
import Derived.KernelRfl
import Derived.Test.YtjklmealdnfhfaaGreatDoorQ0
set_option linter.unusedVariables false
open List renaming getD_eq_getElem?_getD -> B, mem_singleton -> zE, mem_of_mem_take -> zF, mem_append -> zG, length_take -> zH, mem_or_eq_of_mem_set -> zI, getElem?_eq_getElem -> zJ, take -> zK, take_of_length_le -> zL, mem_cons_of_mem -> zM, getElem_append_left -> zN, getElem_mem -> zO, drop -> zQ, mem_cons -> zR, mem_cons_self -> zV, contains_eq_mem -> zW, getElem_of_mem -> zX, drop_eq_getElem_cons -> zY, pairwise_iff_getElem -> zZ, getElem_set -> qA, drop_of_length_le -> qC, map_append -> qD, countP_le_length -> qE, mem_append_right -> qF, length -> qI, mem_append_left -> qJ, replicate -> qK
open Nat renaming le_trans -> E, zero_le -> V, le_refl -> zT
open Int renaming eq_ofNat_of_zero_le -> X, le_trans -> zP, toNat_natCast -> zS, le_of_lt -> qB, le_refl -> qH, toNat -> qM
open Bool renaming and_eq_true -> zU, and_eq_true_iff -> qG
open And renaming intro -> qL
open Go.AM.T (Gz eY kY qt sk uo uz vA vR vS vT vk wC wa wj xi xl z8 za ze zg zi zj)
namespace Go.AM.Lf
open T PL
theorem yT{α:Type}{P:α->Prop}{l:List α}(h:∀ x∈l,P x){a:α}(ha:P a):∀ x∈l++[a],P x:=λx N=>by
 rcases zG.1 N with k | k
 ·exact h x k
 ·rw[zE.1 k]; exact ha
def zaN(l:List Switch):Prop:=∀ x∈l,x.1.length<=KK
theorem zaO(l:List Switch)(x:Switch)(h:zaN l)(N:x.1.length<=KK):zaN (l++[x]):=yT h N
def zaF(l:List Param):Prop:=∀ x∈l,x.1.length<=KK/\rg x.2.1/\rl x.2.1<=1700
theorem zaG(l:List Param)(x:Param)(h:zaF l)(N:x.1.length<=KK/\rg x.2.1/\rl x.2.1<=1700):zaF (l++[x]):=yT h N
def zaH(l:List eQ):Prop:=∀ x∈l,x.1.length<=KK/\x.2.1.length<=KK
theorem zaI(l:List eQ)(x:eQ)(h:zaH l)(N:x.1.length<=KK/\x.2.1.length<=KK):zaH (l++[x]):=yT h N
def zaA(l:List Field):Prop:=∀ x∈l,x.1.length<=KK
theorem zaB(l:List Field)(x:Field)(h:zaA l)(N:x.1.length<=KK):zaA (l++[x]):=yT h N
def zaL(l:List eb):Prop:=∀ x∈l,x.1.length<=KK/\x.2.2.1.length<=KK/\EW KK x.2.2.2.1/\EW KK x.2.2.2.2.1
theorem zaM(l:List eb)(x:eb)(h:zaL l)(N:x.1.length<=KK/\x.2.2.1.length<=KK/\EW KK x.2.2.2.1/\EW KK x.2.2.2.2.1):zaL (l++[x]):=yT h N
def zax(l:List Check):Prop:=∀ x∈l,x.1.length<=KK/\EW KK x.2.2.2.1/\EW KK x.2.2.2.2.1
theorem zay(l:List Check)(x:Check)(h:zax l)(N:x.1.length<=KK/\EW KK x.2.2.2.1/\EW KK x.2.2.2.2.1):zax (l++[x]):=yT h N
def E6(b:List Switch)(c:List Param)(d:List eQ)(e:List Field)(f:List eb)(g:List Check):Prop:=zaN b/\zaF c/\zaH d/\zaA e/\zaL f/\zax g
def c6(b:List Switch)(c:List Param)(d:List eQ)(e:List Field)(f:List eb)(g:List Check):Nat:=b.length+c.length+d.length+e.length+f.length+g.length
theorem got{p:Prop} (h:p:=by
 intros
 repeat' (with_reducible first
  | refine zi ?_
  | refine zg (λ_ => ?_) (λ_ => ?_)
  | refine z8 ?_
  | refine ze ?_
  | refine uo ?_ ?_
  | refine qt ?_ ?_
  | refine vT ?_ ?_
  | refine vk ?_ ?_
  | refine zj ?_ ?_
  | refine vR (λ_ _ => ?_) (λ_ _ => ?_)
  | refine za ?_ (λ_ _ => ?_)
  | refine vA ?_ (λ_ _ => ?_)
  | refine xl ?_
  | dsimp only)
 all_goals grind [xe,uO,eF,jA,vV,zw,j4,E6,c6,List.length_append,List.length_singleton,Ye,Wp,zaO,zaG,zaI,zaB,zaM,zay]):p:=h
section
variable (a:List zx) (u:Unit) (b:List Switch) (c:List Param) (d:List eQ) (e:List Field) (f:List eb) (g:List Check)
theorem wd1{l:List zx}(h:wd l)(j:Int)(h0:0<=j)(h1:j<l.length):1<=(nth l j (zb .str)).length/\(nth l j (zb .str)).length<=20000:=h _ (xx h0 h1)
variable (s:zx)
instance:Sp (cd a u b c d e f g) (E6 b c d e f g/\c6 b c d e f g<=20000/\wd a) (λr=>E6 r.2.2.1 r.2.2.2.1 r.2.2.2.2.1 r.2.2.2.2.2.1 r.2.2.2.2.2.2.1 r.2.2.2.2.2.2.2/\c6 r.2.2.1 r.2.2.2.1 r.2.2.2.2.1 r.2.2.2.2.2.1 r.2.2.2.2.2.2.1 r.2.2.2.2.2.2.2<=c6 b c d e f g+1):=⟨λh=>by
 have h1:=wd1 h.2.2
 unfold cd
 exact got⟩
instance:Sp (cR a u b c d e f g) (E6 b c d e f g/\c6 b c d e f g<=20000/\wd a) (λr=>E6 r.2.2.1 r.2.2.2.1 r.2.2.2.2.1 r.2.2.2.2.2.1 r.2.2.2.2.2.2.1 r.2.2.2.2.2.2.2/\c6 r.2.2.1 r.2.2.2.1 r.2.2.2.2.1 r.2.2.2.2.2.1 r.2.2.2.2.2.2.1 r.2.2.2.2.2.2.2<=c6 b c d e f g+1):=⟨λh=>by
 have h1:=wd1 h.2.2
 unfold cR
 exact got⟩
instance:Sp (cf a u b c d e f g) (E6 b c d e f g/\c6 b c d e f g<=20000/\wd a) (λr=>E6 r.2.2.1 r.2.2.2.1 r.2.2.2.2.1 r.2.2.2.2.2.1 r.2.2.2.2.2.2.1 r.2.2.2.2.2.2.2/\c6 r.2.2.1 r.2.2.2.1 r.2.2.2.2.1 r.2.2.2.2.2.1 r.2.2.2.2.2.2.1 r.2.2.2.2.2.2.2<=c6 b c d e f g+1):=⟨λh=>by
 have h1:=wd1 h.2.2
 unfold cf
 exact got⟩
set_option maxHeartbeats 2000000 in
instance:Sp (cS a u b c d e f g) (E6 b c d e f g/\c6 b c d e f g<=20000/\wd a) (λr=>E6 r.2.2.1 r.2.2.2.1 r.2.2.2.2.1 r.2.2.2.2.2.1 r.2.2.2.2.2.2.1 r.2.2.2.2.2.2.2/\c6 r.2.2.1 r.2.2.2.1 r.2.2.2.2.1 r.2.2.2.2.2.1 r.2.2.2.2.2.2.1 r.2.2.2.2.2.2.2<=c6 b c d e f g+1):=⟨λh=>by
 have h1:=wd1 h.2.2
 unfold cS
 exact got⟩
instance:Sp (bj a s u b c d e f g) (E6 b c d e f g/\c6 b c d e f g<=20000/\wd a/\s.length<=20000) (λr=>E6 r.2.2.1 r.2.2.2.1 r.2.2.2.2.1 r.2.2.2.2.2.1 r.2.2.2.2.2.2.1 r.2.2.2.2.2.2.2/\c6 r.2.2.1 r.2.2.2.1 r.2.2.2.2.1 r.2.2.2.2.2.1 r.2.2.2.2.2.2.1 r.2.2.2.2.2.2.2<=c6 b c d e f g+1):=⟨λh=>by
 have h1:=wd1 h.2.2.1
 unfold bj
 exact got⟩
instance:Sp (cj a s u b c d e f g) (E6 b c d e f g/\c6 b c d e f g<=20000/\wd a/\s.length<=20000) (λr=>E6 r.2.2.1 r.2.2.2.1 r.2.2.2.2.1 r.2.2.2.2.2.1 r.2.2.2.2.2.2.1 r.2.2.2.2.2.2.2/\c6 r.2.2.1 r.2.2.2.1 r.2.2.2.2.1 r.2.2.2.2.2.1 r.2.2.2.2.2.2.1 r.2.2.2.2.2.2.2<=c6 b c d e f g+1):=⟨λh=>by
 have h1:=wd1 h.2.2.1
 unfold cj
 exact got⟩
end
open T PL
instance (a:zx):Sp (strings_Cut a [58]) (a.length<=1000000000) (λr=>r.1.length+r.2.1.length<=a.length/\(a.length=0->r.2.2=false)):=⟨λh=>by
 obtain⟨r,h1,M⟩:=T.eY.1 ((inferInstance:Sp (strings_Cut a [58]) (a.length<=1000000000) (λr=>r.1.length+r.2.1.length<=a.length)).sp h)
 refine kY h1 ⟨M,λe => ?_⟩
 obtain rfl:=List.eq_nil_of_length_eq_zero e
 unfold strings_Cut at h1
 rw[xi (qz),wa]at h1
 cases h1; rfl⟩
theorem zm5{p:Prop} (h:p:=by
 intros
 repeat' (with_reducible first
  | refine zi ?_
  | refine zg (λ_ => ?_) (λ_ => ?_)
  | refine z8 ?_
  | refine ze ?_
  | refine uo ?_ ?_
  | refine qt ?_ ?_
  | refine vT ?_ ?_
  | refine vk ?_ ?_
  | refine zj ?_ ?_
  | refine vR (λ_ _ => ?_) (λ_ _ => ?_)
  | refine za ?_ (λ_ _ => ?_)
  | refine vA ?_ (λ_ _ => ?_)
  | refine xl ?_
  | dsimp only)
 all_goals grind [xe]):p:=h
set_option maxHeartbeats 2000000 in
instance (s:zx) (u:Unit) (b:List Switch) (c:List Param) (d:List eQ) (e:List Field) (f:List eb) (g:List Check):Sp (oU s u b c d e f g) (E6 b c d e f g/\c6 b c d e f g<=20000/\s.length<=20000)
  (λr=>E6 r.2.2.1 r.2.2.2.1 r.2.2.2.2.1 r.2.2.2.2.2.1 r.2.2.2.2.2.2.1 r.2.2.2.2.2.2.2/\c6 r.2.2.1 r.2.2.2.1 r.2.2.2.2.1 r.2.2.2.2.2.1 r.2.2.2.2.2.2.1 r.2.2.2.2.2.2.2<=c6 b c d e f g+1/\(s.length=0->c6 r.2.2.1 r.2.2.2.1 r.2.2.2.2.1 r.2.2.2.2.2.1 r.2.2.2.2.2.2.1 r.2.2.2.2.2.2.2=c6 b c d e f g)):=⟨λh=>by
 have h1 := @wd1
 unfold oU
 exact zm5⟩
def tB(l:List zx):Nat:=(l.map λs=>s.length+1).sum
theorem FC(a b:List zx):tB (a++b)=tB a+tB b:=by unfold tB; rw[qD,List.sum_append]
theorem z3a(c:UInt8):∀ s:zx,tB (lj c s)=s.length+1/\∀ x∈lj c s,x.length<=s.length:=by
 intro s
 induction s with
 | nil=>exact⟨rfl,by simp[lj]⟩
 | cons b s ih =>
  unfold lj
  split
  ·refine⟨by have:=ih.1; unfold tB at *; simp; omega,λx N => ?_⟩
   rcases zR.1 N with rfl | N
   ·simp
   ·have:=ih.2 x N; simp; omega
  ·revert ih
   generalize lj c s=l
   intro ih
   cases l with
   | nil=>have:=ih.1; simp[tB]at this
   | cons y l =>
    refine⟨by have:=ih.1; unfold tB z8F at *; simp at *; omega,λx N => ?_⟩
    rcases zR.1 N with rfl | N
    ·have:=ih.2 y zV; simp; omega
    ·have:=ih.2 x (zM _ N); simp; omega
instance (s:zx):Sp (strings_Split s [10]) (s.length<=1000000) (λr=>tB r=s.length+1/\(∀ x∈r,x.length<=s.length)/\r.length<=s.length+1):=⟨λh=>by
 unfold strings_Split
 have h1:=z3a 10 s
 refine zj ⟨O,rfl⟩ (zi ⟨h1.1,h1.2,?_⟩)
 have:∀ l:List zx,l.length<=tB l:=λl=>by
  induction l with
  | nil=>simp
  | cons a l ih=>unfold tB at *; simp; omega
 have:=this (lj 10 s)
 show(lj 10 s).length<=_
 omega⟩
open T PL
abbrev F0:Form:=([],[],[],[],[],[],())
def F9(f:Form):Prop:=FW 8200 f/\∀ x∈f.2.1,rl x.2.1<=1700
theorem z9c{b:List Switch}{c:List Param}{d:List eQ}{e:List Field}{f:List eb}{g:List Check}(h:E6 b c d e f g)(k:c6 b c d e f g<=8200):F9 (b,c,d,e,f,g,()):=by
 obtain⟨h1,M,h3,h4,h5,h6⟩:=h
 unfold c6 at k
 unfold F9 FW
 dsimp only
 exact⟨⟨⟨O,h1⟩,⟨O,λx N=>⟨(M x N).1,(M x N).2.1,E (M x N).2.2 (xn)⟩⟩,⟨O,h3⟩,⟨O,h4⟩,⟨O,h5⟩,O,h6⟩,λx N=>(M x N).2.2⟩
theorem E60:E6 [] [] [] [] [] []:=⟨nofun,nofun,nofun,nofun,nofun,nofun⟩
theorem SW(l:List zx)(i:Int)(h0:0<=i)(h1:i<l.length):tB (l.take (i+1).toNat)=tB (l.take i.toNat)+((nth l i (zb .str)).length+1):=by
 rw[mn l i (zb .str) h0 h1,FC]; rfl
theorem Py(l:List zx)(n:Nat):tB (l.take n)<=tB l:=by
 have:=FC (l.take n) (l.drop n)
 rw[List.take_append_drop]at this
 omega
theorem z5B{p:Prop} (h:p:=by
 intros
 repeat' (with_reducible first
  | refine zi ?_
  | refine zg (λ_ => ?_) (λ_ => ?_)
  | refine z8 ?_
  | refine ze ?_
  | refine uo ?_ ?_
  | refine qt ?_ ?_
  | refine vT ?_ ?_
  | refine vk ?_ ?_
  | refine zj ?_ ?_
  | refine vR (λ_ _ => ?_) (λ_ _ => ?_)
  | refine za ?_ (λ_ _ => ?_)
  | refine vA ?_ (λ_ _ => ?_)
  | refine xl ?_
  | dsimp only)
 all_goals grind [xe,zw,j4,yI]):p:=h
instance (u:List zx) (s0):Sp (rU u (u.length:Int) s0) (s0=(0,(),(),[],[],[],[],[],[],[],[],[],[],[],[])/\tB u<=16385/\(∀ x∈u,x.length<=20000)/\u.length<=100000)
  (λz=>match z with | .inl (_,_,_,n,_,o,_,p,_,q,_,r,_,s)=>E6 p q r s o n/\c6 p q r s o n<=8200 | .inr z=>z.2.2.1=F0):=⟨λh=>by
 obtain⟨rfl,h1,M,h3⟩:=h
 unfold rU
 refine eP u (zb .str) (λ(m,_)=>m) (λx=>x.length<=20000) (λ_=>True) (λ(m,_,_,_,n,_,o,_,p,_,q,_,r,_,s)=>0<=m/\E6 p q r s o n/\2*c6 p q r s o n<=tB (u.take m.toNat)) M ⟨rfl,O,E60,V _⟩ (λ⟨m,y,z,a,n,b,o,c,p,d,q,e,r,f,s⟩ x ⟨h0,h4,h5⟩ N he _ hm => ?_) λ⟨m,y,z,a,n,b,o,c,p,d,q,e,r,f,s⟩ ⟨h0,h4,h5⟩ hm _ => ?_
 ·have h6:=SW u m h0 hm
  have h7:=Py u m.toNat
  have h8:=he▸N
  dsimp only at hm
  clear N he M
  unfold iW
  exact z5B
 ·have h7:=Py u m.toNat
  dsimp only at hm
  unfold iW
  exact z5B⟩
theorem zcX(P:Form->Prop)(h0:P F0)(h1:∀ {b c d e f g},E6 b c d e f g->c6 b c d e f g<=8200->P (b,c,d,e,f,g,()))(s:zx)(hv:∀ {f},P f->FW 8200 f):(nq s).wp (λr=>P r.1):=by
 unfold nq oZ
 refine zg (λ_=>zi h0) λR=>za (by have:=gm R; omega) λu hu => ?_
 have R:=gm R
 have M:tB u<=16385/\(∀ x∈u,x.length<=20000)/\u.length<=100000:=⟨O,λx N=>by have:=hu.2.1 x N; omega,O⟩
 clear hu
 exact z5B
instance (s:zx):Sp (nq s) True (λr=>F9 r.1):=⟨λ_=>zcX F9 (z9c E60 (by simp[c6])) z9c s And.left⟩
instance (f:Form):Sp (ZB f) (FW 8200 f) (λr=>F9 r):=⟨λh=>by unfold ZB; exact z5B⟩
open T PL
def tg(l:List Term):Prop:=∀ t∈l,rg t.2.1
def tb:List Term->Nat
 | []=>0
 | t::l=>max (rl t.2.1) (tb l)
theorem Xy{l:List Term}{t:Term}(h:t∈l):rl t.2.1<=tb l:=by
 induction l with
 | nil=>cases h
 | cons a l ih =>
  unfold tb
  rcases zR.1 h with rfl | h
  ·omega
  ·have:=ih h; omega
theorem zdj(l:List Term)(t:Term):tb (l++[t])=max (tb l) (rl t.2.1):=by
 induction l with
 | nil=>simp[tb]
 | cons a l ih=>rw[List.cons_append,tb,tb,ih]; omega
theorem zdk(l:List Term)(t:Term)(h:tg l)(k:rg t.2.1):tg (l++[t]):=yT h k
theorem Hi(l:List Term)(h:tg l)(i:Int)(h0:0<=i)(h1:i<l.length):rg (nth l i (zb qj)).2.1/\rl (nth l i (zb qj)).2.1<=tb l:=⟨h _ (xx h0 h1),Xy (xx h0 h1)⟩
theorem zl5(l:List Term)(h:tg l)(h1:1<=l.length):tg (jI (e:=qj) 1 (l.length:Int) l)/\tb (jI (e:=qj) 1 (l.length:Int) l)<=tb l/\(jI (e:=qj) 1 (l.length:Int) l).length+1=l.length:=by
 have e:jI (e:=qj) 1 (l.length:Int) l=l.tail:=by unfold jI; simp
 rw[e]
 cases l with
 | nil=>simp at h1
 | cons a l=>exact⟨λt ht=>h t (zM _ ht),by rw[tb]; simp; omega,qz⟩
theorem tg0:tg []/\tb []=0:=⟨nofun,rfl⟩
def cg(c:vI):Prop:=tg c.2.1/\rg c.2.2.1
def cb(c:vI):Nat:=max (tb c.2.1) (rl c.2.2.1)
theorem Xs:rg (false,[],[],())/\rl (false,[],[],())=0:=⟨⟨vF,vF⟩,by simp[rl]⟩
theorem Ep{p:Prop} (h:p:=by
 intros
 repeat' (with_reducible first
  | refine zi ?_
  | refine zg (λ_ => ?_) (λ_ => ?_)
  | refine z8 ?_
  | refine ze ?_
  | refine uo ?_ ?_
  | refine qt ?_ ?_
  | refine vT ?_ ?_
  | refine vk ?_ ?_
  | refine zj ?_ ?_
  | refine vR (λ_ _ => ?_) (λ_ _ => ?_)
  | refine za ?_ (λ_ _ => ?_)
  | refine vA ?_ (λ_ _ => ?_)
  | refine xl ?_
  | dsimp only)
 all_goals grind [xe,jA,vV,zw,j4,yI,zdj,zdk,tg0,cg,cb,Xs,Wp,List.length_append,List.length_singleton,Dn,Hs]):p:=h
set_option maxHeartbeats 4000000 in
instance (s:List Term×List Term×(Int×Bool×List Int×List Int×Unit)×(Int×Bool×List Int×List Int×Unit)×List Term×List Term):Sp (WN s) (tg s.1/\tg s.2.1/\s.2.2.2.2.2=[]/\s.1.length+s.2.1.length<=1000000/\tb s.1+tb s.2.1<=10000000)
  (λr=>r.2.1=s.2.2.2.1/\tg r.2.2.2/\tb r.2.2.2<=tb s.1+tb s.2.1+3/\r.2.2.2.length<=s.1.length+s.2.1.length):=⟨λh=>by
 unfold WN
 refine vS (λ(b,a,_,o,_,d)=>o=s.2.2.2.1/\tg b/\tg a/\tg d/\tb b<=tb s.1/\tb a<=tb s.2.1/\tb d<=tb s.1+tb s.2.1+3/\a.length+b.length+d.length<=s.1.length+s.2.1.length) (λ(b,a,_)=>a.length+b.length) (by grind [tg0]) λ⟨b,a,n,o,c,d⟩ hs => ?_
 have h1:=h.2.2.2
 clear h
 generalize s.2.2.2.1=q at *
 generalize tb s.1=zC at *
 generalize tb s.2.1=κ' at *
 generalize s.1.length=X' at *
 generalize s.2.1.length=Y' at *
 have ka:=zl5 a hs.2.2.1
 have kb:=zl5 b hs.2.1
 have na:=Hi a hs.2.2.1 0 (O)
 have nb:=Hi b hs.2.1 0 (O)
 unfold WO
 dsimp only at *
 generalize jI (e:=qj) 1 (a.length:Int) a=a' at *
 generalize jI (e:=qj) 1 (b.length:Int) b=b' at *
 generalize nth a 0 (zb qj)=x at *
 generalize nth b 0 (zb qj)=y at *
 exact Ep⟩
instance (a b:vI):Sp (XE a b) (cg a/\cg b/\a.2.1.length+b.2.1.length<=1000000/\cb a+cb b<=10000000) (λr=>cg r/\cb r<=cb a+cb b+3/\r.2.1.length<=a.2.1.length+b.2.1.length):=⟨λh=>by unfold XE oZ; exact Ep⟩
instance (k:Lf.Rat) (l:List Term) (s:Int×(Int×Bool×List Int×List Int×Unit)×(Int×Bool×List Int×List Int×Unit)×List Term×List Term):Sp (Zi k l (l.length:Int) s) (s.1=0/\tg l/\rg k/\s.2.2.2.2=[]/\l.length<=1000000/\tb l+rl k<=10000000)
  (λr=>r.2.1=s.2.2.1/\tg r.2.2.2/\tb r.2.2.2<=tb l+rl k+2/\r.2.2.2.length<=l.length):=⟨λh=>by
 unfold Zi
 refine vS (λ(i,_,d,_,a)=>0<=i/\i<=l.length/\d=s.2.2.1/\tg a/\tb a<=tb l+rl k+2/\(a.length:Int)<=i) (λ(i,_)=>(l.length-i).toNat) (by grind [tg0]) λ⟨b,c,d,e,a⟩ hs => ?_
 have kb:=Hi l h.2.1 b hs.1
 unfold Zj
 dsimp only at *
 generalize nth l b (zb qj)=x at *
 exact Ep⟩
instance (a:vI) (k:Lf.Rat):Sp (dH a k) (cg a/\rg k/\a.2.1.length<=1000000/\cb a+rl k<=10000000) (λr=>cg r/\cb r<=cb a+rl k+2/\r.2.1.length<=a.2.1.length):=⟨λh=>by unfold dH oZ; exact Ep⟩
instance (k:Int) (a b:vI):Sp (Zk k a b) (cg a/\cg b/\a.2.1.length+b.2.1.length<=1000000/\cb a+cb b<=1000000) (λr=>cg r.1/\cb r.1<=cb a+cb b+10/\r.1.2.1.length<=a.2.1.length+b.2.1.length):=⟨λh=>by unfold Zk; exact Ep⟩
def rs(l:List Lf.Rat):Prop:=l.length<=1000000000/\∀ x∈l,rg x/\rl x<=1700
theorem D4{l:List Lf.Rat}(h:rs l)(i:Int)(h0:0<=i)(h1:i<l.length):rg (nth l i (zb zl))/\rl (nth l i (zb zl))<=1700:=h.2 _ (xx h0 h1)
instance (l:List Lf.Rat) (i:Int):Sp (lF l i) (rs l) (λr=>rg r/\rl r<=1700/\((∀ x∈l,rl x<=16)->rl r<=16)):=⟨λh=>by
 have:=D4 h i
 have M:(∀ x∈l,rl x<=16)->0<=i->i<l.length->rl (nth l i (zb zl))<=16:=λh h0 h1=>h _ (xx h0 h1)
 unfold lF
 exact Ep⟩
def vg(v:wm):Prop:=v.1.length<=20000/\v.2.1.length<=20000/\rs v.2.2.1/\∀ x∈v.2.2.1,rl x<=16
instance (s:zx) (v:wm):Sp (XG s v) (vg v) (λr=>cg r.1/\cb r.1<=16/\r.1.2.1.length<=1):=⟨λh=>by
 have h1:∀ (i:Int) (a:Lf.Rat),rg a->tg [(i,a,())]/\tb [(i,a,())]=rl a:=λi a h=>⟨λt ht=>zE.1 ht▸h,by simp[tb]⟩
 unfold vg at h
 unfold XG
 exact Ep⟩
open T PL
instance (e:Expr) (v:wm):Sp (Km e v) (EK e/\vg v) (λr=>cg r.1/\cb r.1<=10300/\r.1.2.1.length<=256):=⟨λh=>by
 obtain⟨⟨n,hn,he⟩,hv⟩:=h
 unfold Km
 refine wj (P:=λr=>∀ n,EO n e->cg r.1/\cb r.1<=40*n/\r.1.2.1.length<=n) ?_ λr hr=>by have:=hr n he; exact⟨this.1,O,O⟩
 refine sk (x:=(e,v)) (λ(e,v)=>(∃ n,n<=256/\EO n e)/\vg v) (λ(e,_)=>SizeOf.sizeOf e) (λ(e,_) (r:vI×Int)=>∀ n,EO n e->cg r.1/\cb r.1<=40*n/\r.1.2.1.length<=n) ?_ ?_ ⟨⟨n,hn,he⟩,hv⟩
 ·intro g g' hg x
  unfold dI
  exact mono
 ·intro⟨e,v⟩ ⟨⟨n,hn,he⟩,hv⟩ g hg
  have z:cg (0,[],(false,[],[],()),())/\cb (0,[],(false,[],[],()),())=0:=⟨⟨nofun,Xs.1⟩,by simp[cb,tb,Xs.2]⟩
  have hq:∀ {n'},EO n' e->n'=n:=λh=>h.uniq he
  suffices (dI (λy0 y1=>g (y0,y1)) e v).wp λr=>cg r.1/\cb r.1<=40*n/\r.1.2.1.length<=n from wj this λr hr n' h=>by rw[hq h]; exact hr
  clear hq
  cases he with
  | num h1 M =>
   unfold dI
   simp only[Expr.kids,Expr.kind,Expr.num,Expr.name]
   exact uz rfl Ep
  | nam h1 =>
   unfold dI
   simp only[Expr.kids,Expr.kind,Expr.num,Expr.name]
   exact wC rfl (uz rfl Ep)
  | @neg m s i a h1 =>
   have ha:Sp (g (a,v)) True (λr=>cg r.1/\cb r.1<=40*i/\r.1.2.1.length<=i):=⟨λ_=>wj (hg (a,v) ⟨⟨i,O,h1⟩,hv⟩ (by simp<;>omega)) λr hr=>hr i h1⟩
   unfold dI
   simp only[Expr.kids,Expr.kind,Expr.num,Expr.name]
   clear hg
   refine wC rfl (wC rfl (qt ⟨O,qz⟩ ?_))
   rw[show nth [a] 0 (zb .expr)=a from rfl]
   refine za trivial λr hr=>zg (λ_=>zi ?_) λ_=>uz rfl ?_
   ·grind
   ·exact Ep
  | @bin k m s i j a b h1 M h3 h4 =>
   have ha:Sp (g (a,v)) True (λr=>cg r.1/\cb r.1<=40*i/\r.1.2.1.length<=i):=⟨λ_=>wj (hg (a,v) ⟨⟨i,O,h3⟩,hv⟩ (by simp<;>omega)) λr hr=>hr i h3⟩
   have I:Sp (g (b,v)) True (λr=>cg r.1/\cb r.1<=40*j/\r.1.2.1.length<=j):=⟨λ_=>wj (hg (b,v) ⟨⟨j,O,h4⟩,hv⟩ (by simp<;>omega)) λr hr=>hr j h4⟩
   unfold dI
   simp only[Expr.kids,Expr.kind,Expr.num,Expr.name]
   clear hg
   refine wC (xz) (wC (xz) (qt ⟨O,by simp<;>omega⟩ ?_))
   rw[show nth [a,b] 0 (zb .expr)=a from rfl,show nth [a,b] 1 (zb .expr)=b from rfl]
   refine za trivial λr hr=>zg (λ_=>zi ?_) λ_=>wC (xz) (qt ⟨O,qz⟩ ?_)
   ·grind
   ·exact Ep⟩
theorem c0:cg (0,[],(false,[],[],()),())/\cb (0,[],(false,[],[],()),())=0:=⟨⟨nofun,Xs.1⟩,by simp[cb,tb,Xs.2]⟩
instance (e:Expr) (v:wm):Sp (KU e v) (EW KK e/\vg v) (λr=>cg r.1/\cb r.1<=10300/\r.1.2.1.length<=256):=⟨λh=>by have:=c0; unfold KU; exact Ep⟩
instance (x:eb) (v:wm):Sp (ZA x v) (EW KK x.2.2.2.1/\EW KK x.2.2.2.2.1/\vg v) (λr=>cg r.1/\cb r.1<=20700/\r.1.2.1.length<=512/\(r.2=0->r.1.1=x.2.1)):=⟨λh=>by unfold ZA; exact Ep⟩
open T PL
theorem rM{α:Type}(l:List α)(i:Int)(d:α):wh l (0+i.toNat) d=nth l i d:=by simp[wh,nth]
instance (a:List Lf.Rat):Sp (bn a) (a.length<=1000000000) (λr=>r=a):=⟨λh=>by
 unfold bn
 refine zj ?_ (zj ⟨rfl,rfl,rfl,O⟩ (zj rfl (zi (qz))))
 rintro rfl r hr
 simpa[T.leads,vV,zw]using hr⟩
instance (a:List Int):Sp (y6 a) (a.length<=1000000000) (λr=>r=a):=⟨λh=>by
 unfold y6
 refine zj ?_ (zj ⟨rfl,rfl,rfl,O⟩ (zj rfl (zi (qz))))
 rintro rfl r hr
 simpa[T.leads,vV,zw]using hr⟩
instance (a:List zx):Sp (wQ a) (a.length<=1000000000) (λr=>r=a):=⟨λh=>by
 unfold wQ
 refine zj ?_ (zj ⟨rfl,rfl,rfl,O⟩ (zj rfl (zi (qz))))
 rintro rfl r hr
 simpa[T.leads,vV,zw]using hr⟩
instance (a:List Lf.Rat):Sp (jM a) (a.length<=1000000000) (λr=>r=a):=⟨λh=>by
 unfold jM
 refine zj ?_ (zj ⟨rfl,rfl,rfl,O⟩ (uo (O) (zi rfl)))
 rintro rfl r hr
 simpa[T.leads,vV,zw]using hr⟩
instance (a:List Int):Sp (uR a) (a.length<=1000000000) (λr=>r=a):=⟨λh=>by
 unfold uR
 refine zj ?_ (zj ⟨rfl,rfl,rfl,O⟩ (uo (O) (zi rfl)))
 rintro rfl r hr
 simpa[T.leads,vV,zw]using hr⟩
instance (a:List Bool):Sp (jl a) (a.length<=1000000000) (λr=>r=a):=⟨λh=>by
 unfold jl
 refine zj ?_ (zj ⟨rfl,rfl,rfl,O⟩ (uo (O) (zi rfl)))
 rintro rfl r hr
 simpa[T.leads,vV,zw]using hr⟩
instance (a:List qk):Sp (jG a) (a.length<=1000000000) (λr=>r=a):=⟨λh=>by
 unfold jG
 refine zj ?_ (zj ⟨rfl,rfl,rfl,O⟩ (uo (O) (zi rfl)))
 rintro rfl r hr
 simpa[T.leads,vV,zw]using hr⟩
instance (a:List zx):Sp (wR a) (a.length<=1000000000) (λr=>r=a):=⟨λh=>by
 unfold wR
 refine zj ?_ (zj ⟨rfl,rfl,rfl,O⟩ (uo (O) (zi rfl)))
 rintro rfl r hr
 simpa[T.leads,vV,zw]using hr⟩
instance (a:List Rat) (c:Rat->T Bool) (p:Rat->Prop) (P:Rat->Bool->Prop) [∀ x,Sp (c x) (p x) (P x)]:Sp (kQ a c) (a.length<=1000000000000/\∀ x∈a,p x) (Hs a P (zb zl)):=⟨ixq⟩
instance (a:List Rat) (c:Rat->T Bool) (p:Rat->Prop) (P:Rat->Bool->Prop) [∀ x,Sp (c x) (p x) (P x)]:Sp (vw a c) (a.length<=1000000000000/\∀ x∈a,p x) (Dn a P):=⟨λh=>cnq (Sp.sp h)⟩
instance (a:List Term) (c:Term->T Bool) (p:Term->Prop) (P:Term->Bool->Prop) [∀ x,Sp (c x) (p x) (P x)]:Sp (ki a c) (a.length<=1000000000000/\∀ x∈a,p x) (Hs a P (zb qj)):=⟨ixq⟩
instance (a:List Term) (c:Term->T Bool) (p:Term->Prop) (P:Term->Bool->Prop) [∀ x,Sp (c x) (p x) (P x)]:Sp (vZ a c) (a.length<=1000000000000/\∀ x∈a,p x) (Dn a P):=⟨λh=>cnq (Sp.sp h)⟩
instance (a:List vI) (c:vI->T Bool) (p:vI->Prop) (P:vI->Bool->Prop) [∀ x,Sp (c x) (p x) (P x)]:Sp (bF a c) (a.length<=1000000000000/\∀ x∈a,p x) (Hs a P (zb zr)):=⟨ixq⟩
instance (a:List vI) (c:vI->T Bool) (p:vI->Prop) (P:vI->Bool->Prop) [∀ x,Sp (c x) (p x) (P x)]:Sp (yQ a c) (a.length<=1000000000000/\∀ x∈a,p x) (Dn a P):=⟨λh=>cnq (Sp.sp h)⟩
instance (a:List Field) (c:Field->T Bool) (p:Field->Prop) (P:Field->Bool->Prop) [∀ x,Sp (c x) (p x) (P x)]:Sp (gp a c) (a.length<=1000000000000/\∀ x∈a,p x) (Hs a P (zb qw)):=⟨ixq⟩
instance (a:List qk) (c:qk->T Bool) (p:qk->Prop) (P:qk->Bool->Prop) [∀ x,Sp (c x) (p x) (P x)]:Sp (yl a c) (a.length<=1000000000000/\∀ x∈a,p x) (Hs a P (zb zm)):=⟨ixq⟩
instance (a:List qk) (c:qk->T Bool) (p:qk->Prop) (P:qk->Bool->Prop) [∀ x,Sp (c x) (p x) (P x)]:Sp (uw a c) (a.length<=1000000000000/\∀ x∈a,p x) (Dn a P):=⟨λh=>cnq (Sp.sp h)⟩
instance (l:List Field) (s:Int×List zx):Sp (r8 l (l.length:Int) s) (s.1=0/\l.length<=8200/\(∀ x∈l,x.1.length<=KK)/\ss s.2/\s.2.length<=100000) (λr=>ss r/\r.length<=s.2.length+l.length):=⟨λh=>by
 unfold r8 r9
 exact pX l (zb qw) (λ(i,_)=>i) _ (λ_=>True) (λ(i,c)=>0<=i/\i<=l.length/\ss c/\(c.length:Int)<=s.2.length+i) h.2.2.1⟩
def ck(c:vI):Prop:=cg c/\cb c<=20700/\c.2.1.length<=512
def VM(l:List vI):Prop:=l.length<=1000/\∀ c∈l,ck c
def io(n:Int)(l:List Int):Prop:=∀ i∈l,0<=i/\i<n
theorem Cb(l:List vI)(c:vI)(h:VM l)(k:ck c)(R:l.length<=999):VM (l++[c]):=⟨by simp; omega,yT h.2 k⟩
theorem CD(n:Int)(l:List Int)(i:Int)(h:io n l)(h0:0<=i)(h1:i<n):io n (l++[i]):=yT h ⟨h0,h1⟩
theorem zbX(n:Int)(l:List Int)(h:io n l)(i:Int)(h0:0<=i)(h1:i<l.length):0<=nth l i (zb (.int .i64))/\nth l i (zb (.int .i64))<n:=h _ (xx h0 h1)
theorem Wo:VM []/\∀ n,io n []:=⟨⟨qz,nofun⟩,λ_=>nofun⟩
theorem goe{p:Prop} (h:p:=by
 intros
 repeat' (with_reducible first
  | refine zi ?_
  | refine zg (λ_ => ?_) (λ_ => ?_)
  | refine z8 ?_
  | refine ze ?_
  | refine uo ?_ ?_
  | refine qt ?_ ?_
  | refine vT ?_ ?_
  | refine vk ?_ ?_
  | refine zj ?_ ?_
  | refine vR (λ_ _ => ?_) (λ_ _ => ?_)
  | refine za ?_ (λ_ _ => ?_)
  | refine vA ?_ (λ_ _ => ?_)
  | refine xl ?_
  | dsimp only)
 all_goals grind [xe,uO,jA,vV,zw,j4,yI,List.length_append,List.length_singleton,Cb,CD,Wo,ck,Wp,Dn,Hs]):p:=h
instance (x:Lf.Rat):Sp (bU x) (rg x/\rl x<=1700) (λr=>r=false->rl x<=16):=⟨λh=>by have:nm x↔norm x=x:=Iff.rfl; unfold bU; exact goe⟩
instance (x:Switch) (s:zx):Sp (dN x s) True (λ_=>True):=⟨λ_=>by unfold dN; exact goe⟩
instance (f:Form) (l:List Bool) (s:zx):Sp (XN f l s) (f.1.length<=8200/\l.length=f.1.length) (λ_=>True):=⟨λh=>by unfold XN; exact goe⟩
instance (x:Term):Sp (gV x) (rg x.2.1/\rl x.2.1<=50000) (λ_=>True):=⟨λh=>by unfold gV; exact goe⟩
instance (c:vI):Sp (Zz c) (ck c) (λ_=>True):=⟨λh=>by
 have h1:∀ t∈c.2.1,rg t.2.1/\rl t.2.1<=50000:=λt ht=>⟨h.1.1 t ht,by have:=Xy ht; have:=h.2.1; unfold cb at this; omega⟩
 have M:=h.1.2
 have h3:rl c.2.2.1<=50000:=by have:=h.2.1; unfold cb at this; omega
 have h4:=h.2.2
 clear h
 unfold Zz
 exact goe⟩
instance (f:Form):Sp (sF f) (FV f) (λr=>ss r/\r.length<=8200):=⟨λh=>by
 obtain⟨h1,_,_,h4⟩:=FV.fe h
 unfold sF oZ
 exact Er⟩
instance (l:List Param) (s:Int×(List Lf.Rat×Unit)×(List zx×List Lf.Rat×Unit)×List zx×List zx×List zx):Sp (QU l (l.length:Int) s) (s.1=0/\l.length<=8200/\s.2.2.2.2.2=[]) (λr=>r.2.1=s.2.2.1/\r.2.2.2.2.length<=8200):=⟨λh=>by
 unfold QU QV
 refine vS (λ(i,_,d,_,_,c)=>0<=i/\i<=l.length/\d=s.2.2.1/\(c.length:Int)<=i) (λ(i,_)=>(l.length-i).toNat) (xz) ?_
 exact goe⟩
instance (f:Form) (l:List Lf.Rat):Sp (r7 f l) (FV f/\rs l/\∀ x∈l,rl x<=16) (λr=>vg r):=⟨λh=>by
 obtain⟨h1,_⟩:=FV.fe h.1
 have M:l.length<=1000000000:=h.2.1.1
 unfold r7 vg
 exact goe⟩
open T PL
def EJ(f:Form)(v:wm)(z:Int)(d:wm)(a:List vI)(b:List Int):Prop:=0<=z/\z<=64/\d=v/\VM a/\io f.2.2.2.2.1.length b/\a.length=b.length/\(a.length:Int)<=z
theorem goE{p:Prop} (h:p:=by
 intros
 repeat' (with_reducible first
  | refine zi ?_
  | refine zg (λ_ => ?_) (λ_ => ?_)
  | refine z8 ?_
  | refine ze ?_
  | refine uo ?_ ?_
  | refine qt ?_ ?_
  | refine vT ?_ ?_
  | refine vk ?_ ?_
  | refine zj ?_ ?_
  | refine vR (λ_ _ => ?_) (λ_ _ => ?_)
  | refine za ?_ (λ_ _ => ?_)
  | refine vA ?_ (λ_ _ => ?_)
  | refine xl ?_
  | dsimp only)
 all_goals grind [xe,uO,jA,vV,zw,j4,yI,List.length_append,List.length_singleton,Cb,CD,Wo,ck,Wp,Dn,Hs,EJ]):p:=h
instance (o:List Bool) (f:Form) (s:Int×Unit×Unit×wm×List vI×List Int):Sp (pY o f f.2.2.2.2.1 (f.2.2.2.2.1.length:Int) s) (s.1=0/\FV f/\f.2.2.2.2.1.length<=64/\o.length=f.1.length/\vg s.2.2.2.1/\s.2.2.2.2=([],[]))
  (λr=>match r with | .inl z=>z.2.2.1=s.2.2.2.1/\VM z.2.2.2.1/\io f.2.2.2.2.1.length z.2.2.2.2/\z.2.2.2.1.length=z.2.2.2.2.length/\z.2.2.2.1.length<=64 | .inr z=>z.2.1≠0):=⟨λh=>by
 have h1:=h.2.1.1.1.1
 have M:∀ x∈f.2.2.2.2.1,EW KK x.2.2.2.1/\EW KK x.2.2.2.2.1:=λx N=>(h.2.1.1.2.2.2.2.1.2 x N).2.2
 obtain⟨h3,_,h4,h5,h6,h7⟩:=h
 unfold pY
 refine eP f.2.2.2.2.1 (zb xm) (λ(i,_)=>i) _ (λ_=>True) (λ(i,_,_,d,a,b)=>EJ f s.2.2.2.1 i d a b) M ⟨h3,by grind [EJ,Wo]⟩ (λ⟨c,l,m,d,a,b⟩ x hj N he h0 R => ?_) λ⟨c,l,m,d,a,b⟩ hj he _ => ?_
 ·have hr:=he▸N
  dsimp only at *
  generalize s.2.2.2.1=v at *
  clear M he N h7 h3
  unfold fZ
  exact goE
 ·clear M
  unfold fZ
  exact goE⟩
instance (f:Form) (u v:Unit) (e:wm) (a:List vI) (b:List Int):Sp (pZ f (a.length:Int) (0,u,v,e,a,b)) (VM a/\io f.2.2.2.2.1.length b/\a.length=b.length/\a.length<=64)
  (λr=>match r with | .inl z=>z.2.2.2=(a,b) | .inr z=>z.2.1≠0):=⟨λh=>by
 obtain⟨h1,M,h3,h4⟩:=h
 unfold pZ
 refine eP a (zb zr) (λ(i,_)=>i) _ (λ_=>True) (λ(i,_,_,_,a',b')=>0<=i/\i<=64/\a'=a/\b'=b) h1.2 ⟨rfl,O,O,rfl,rfl⟩ (λ⟨c,l,m,d,a',b'⟩ x ⟨k0,k1,k2,k3⟩ N he h0 R => ?_) λ⟨c,l,m,d,a',b'⟩ ⟨k0,k1,k2,k3⟩ he _ => ?_
 ·subst k2 k3
  have hr:=he▸N
  have hi:=zbX _ _ M c h0 (by dsimp only at *; omega)
  dsimp only at *
  unfold ic
  simp only[rM]
  clear h1 M he N
  exact goE
 ·subst k2 k3
  clear h1 M
  unfold ic
  simp only[rM]
  exact goE⟩
instance (f:Form) (p:List Lf.Rat) (o:List Bool):Sp (mT f p o) (FW 8200 f/\rs p/\o.length<=1000000000)
  (λr=>VM r.2.2.2.1/\io f.2.2.2.2.1.length r.2.2.2.2/\r.2.2.2.1.length=r.2.2.2.2.length/\r.2.2.2.1.length<=64/\(r.2.2.1=0->FV f/\f.2.2.2.1.length<=64/\f.2.2.2.2.1.length<=64/\p.length=f.2.1.length/\o.length=f.1.length)):=⟨λh=>by
 have h1:p.length<=1000000000/\∀ x∈p,rg x/\rl x<=1700:=h.2.1
 have M:=Wo
 unfold mT oZ
 exact goE⟩
end Go.AM.Lf
namespace Go.AM.PL
namespace G
def jn(f:Int->Int)(a b:Int):Int->Int:=λu=>if f u=max (f a) (f b)then min (f a) (f b)else f u
def Ki(f:Int->Int)(a:Int):List Int->(Int->Int)×Bool
 | []=>(f,true)
 | b::r=>((Ki (jn f a b) a r).1,decide (f a≠f b)&&(Ki (jn f a b) a r).2)
def MZ(f:Int->Int):List Int->(Int->Int)×Bool
 | []=>(f,true)
 | a::r=>Ki f a r
def U1(f:Int->Int)(i:Int):List (List Int)->Int
 | [] => -1
 | c::r=>if(MZ f c).2=true then U1 (MZ f c).1 (i+1) r else i
theorem zgN(f:Int->Int)(a b:Int):jn f a b a=jn f a b b:=by unfold jn; grind
theorem N1{f:Int->Int}{u w:Int}(a b:Int)(h:f u=f w):jn f a b u=jn f a b w:=by unfold jn; rw[h]
theorem Yv:∀ (r:List Int) (f:Int->Int) (a u w:Int),f u=f w->(Ki f a r).1 u=(Ki f a r).1 w
 | [],_,_,_,_,h=>h
 | b::r,f,a,u,w,h=>Yv r (jn f a b) a u w (N1 a b h)
theorem z1e(c:List Int)(f:Int->Int){u w:Int}(h:f u=f w):(MZ f c).1 u=(MZ f c).1 w:=by
 cases c with
 | nil=>exact h
 | cons a r=>exact Yv r f a u w h
theorem N0:∀ (r:List Int) (f:Int->Int) (a b:Int),b∈r->(Ki f a r).1 b=(Ki f a r).1 a
 | c::r,f,a,b,h=>by
  rcases zR.1 h with rfl | h
  ·exact Yv r _ a b a (zgN f a b).symm
  ·exact N0 r (jn f a c) a b h
theorem z6k(c:List Int)(f:Int->Int){u w:Int}(hu:u∈c)(hw:w∈c):(MZ f c).1 u=(MZ f c).1 w:=by
 cases c with
 | nil=>cases hu
 | cons a r =>
  have key:∀ b∈a::r,(Ki f a r).1 b=(Ki f a r).1 a:=λb h=>by
   rcases zR.1 h with rfl | h
   ·rfl
   ·exact N0 r f a b h
  exact(key u hu).trans (key w hw).symm
theorem Je:∀ (r:List Int) (f:Int->Int) (a:Int),(Ki f a r).2=true->(∀ b∈r,f a≠f b)/\r.Pairwise λb c=>f b≠f c
 | [],_,_,_=>⟨λb h=>(by cases h),.nil⟩
 | b::r,f,a,h=>by
  unfold Ki at h
  simp only[zU,decide_eq_true_eq]at h
  obtain⟨h1,M⟩:=Je r (jn f a b) a h.2
  have I:∀ c∈r,f a≠f c/\f b≠f c:=λc hc=>by
   have:=h1 c hc
   unfold jn at this
   grind
  refine⟨λc hc => ?_,.cons (λc hc=>(I c hc).2) (M.imp_of_mem λ{c d} hc J g e=>g (N1 a b e))⟩
  rcases zR.1 hc with rfl | hc
  ·exact h.1
  ·exact(I c hc).1
theorem S1{c:List Int}{f:Int->Int}(h:(MZ f c).2=true):c.Pairwise λb d=>f b≠f d:=by
 cases c with
 | nil=>exact .nil
 | cons a r=>exact .cons (Je r f a h).1 (Je r f a h).2
def Ti(rk:Int->Nat)(cs:List (List Int))(outs:List Int):Prop:=∀ i (h:i<cs.length) (h':i<outs.length),outs[i]∈cs[i]->∀ t∈cs[i],t≠outs[i]->rk t<rk outs[i]
theorem zkV:∀ (cs:List (List Int)) (outs:List Int) (f:Int->Int) (i:Int) (SP:Int->Nat) (zA:Nat) (Wo:List (List Int)) (Z5:List Int),0<=i->U1 f i cs = -1->Wo.length=Z5.length->(∀ v,SP v<=zA) ->
  (∀ c∈Wo,∀ u∈c,∀ w∈c,f u=f w)->Ti SP Wo Z5->∃ rk:Int->Nat,∃ B',(∀ v,rk v<=B')/\Ti rk (Wo++cs) (Z5++outs)
 | [],outs,f,i,SP,zA,Wo,Z5,_,_,R,hB,_,hA=>⟨SP,zA,hB,λj h h'=>by
   simp only[List.append_nil]at h ⊢
   have e:(Z5++outs)[j]'h'=Z5[j]'(R▸h):=zN _
   rw[e]
   exact hA j h (R▸h)⟩
 | c::cs,[],f,i,SP,zA,Wo,Z5,_,_,R,hB,_,hA=>⟨SP,zA,hB,λj h h'=>by
   simp only[List.append_nil]at h' ⊢
   have e:(Wo++c::cs)[j]'h=Wo[j]'(R▸h'):=zN _
   rw[e]
   exact hA j (R▸h') h'⟩
 | c::cs,o::outs,f,i,SP,zA,Wo,Z5,hi,hf,R,hB,hc,hA=>by
  unfold U1 at hf
  split at hf
  ·rename_i hk
   have hap:=S1 hk
   let rk:Int->Nat:=λu=>SP u+if f u=f o then zA+1 else 0
   have hrk:Ti rk (Wo++[c]) (Z5++[o]):=λj h h'=>by
    by_cases hj:j<Wo.length
    ·have e1:(Wo++[c])[j]'h=Wo[j]:=zN hj
     have e2:(Z5++[o])[j]'h'=Z5[j]'(R▸hj):=zN (R▸hj)
     rw[e1,e2]
     intro hm t ht jZ
     have h1:=hA j hj (R▸hj) hm t ht jZ
     have M:=hc _ (zO hj) t ht _ hm
     show SP t+(if f t=f o then zA+1 else 0)<SP _+(if f _=f o then zA+1 else 0)
     rw[M]; omega
    ·have MR:j=Wo.length:=by simp at h; omega
     subst MR
     have e1:(Wo++[c])[Wo.length]'h=c:=qz
     have e2:(Z5++[o])[Wo.length]'h'=o:=by simp[R]
     rw[e1,e2]
     intro hm t ht jZ
     have Te:f t≠f o:=by
      obtain⟨p,hp,rfl⟩:=zX ht
      obtain⟨q,hq,rfl⟩:=zX hm
      rcases Nat.lt_trichotomy p q with h3 | h3 | h3
      ·exact zZ.1 hap p q hp hq h3
      ·subst h3; exact absurd rfl jZ
      ·exact λe=>zZ.1 hap q p hq hp h3 e.symm
     show SP t+(if f t=f o then zA+1 else 0)<SP o+(if f o=f o then zA+1 else 0)
     rw[if_neg Te,if_pos rfl]
     have:=hB t
     omega
   have:=zkV cs outs (MZ f c).1 (i+1) rk (zA+(zA+1)) (Wo++[c]) (Z5++[o]) (O) hf (by simp[R]) (λv=>by
     show SP v+(if f v=f o then zA+1 else 0)<=_
     have:=hB v
     split<;>omega) (λd J u hu w hw=>by
     rcases zG.1 J with J | J
     ·exact z1e c f (hc d J u hu w hw)
     ·rw[zE.1 J]at hu hw; exact z6k c f hu hw) hrk
   simpa using this
  ·omega
end G
end Go.AM.PL
namespace Go.AM.PL
namespace G
structure RL(r:List Int)(f:Int->Int):Prop where
 a:∀ (v:Nat) (h:v<r.length),0<=r[v]/\r[v]<=v
 b:∀ (v:Nat) (h:v<r.length),f r[v]=f v
 c:∀ (v:Nat) (h:v<r.length),r[v]=v->f v=v
theorem RL.at{r:List Int}{f:Int->Int}(H:RL r f){v:Nat}(h:v<r.length):∃ w:Nat,r[v]=(w:Int)/\w<=v/\w<r.length/\f w=f v:=by
 have h1:=H.a v h
 have M:=H.b v h
 refine⟨r[v].toNat,O,O,O,?_⟩
 rw[Int.toNat_of_nonneg h1.1]; exact M
theorem RL.zfI{r:List Int}{f:Int->Int}(H:RL r f){v w:Nat}(h:v<r.length)(hw:r[v]=(w:Int))(hwl:w<r.length):RL (r.set v r[w]) f:=by
 have h1:=H.a v h
 have M:=H.a w hwl
 have h3:=H.b v h
 have h4:=H.b w hwl
 refine⟨λu hu => ?_,λu hu => ?_,λu hu => ?_⟩<;>simp only[List.length_set]at hu<;>rw[qA]
 ·split
  ·omega
  ·exact H.a u hu
 ·split
  ·rename_i e; subst e; rw[h4,<- hw,h3]
  ·exact H.b u hu
 ·split
  ·rename_i e
   subst e
   intro e
   exact H.c v h (O)
  ·exact H.c u hu
theorem RL.join{r:List Int}{f:Int->Int}(H:RL r f){v w a b:Nat}(ha:f v=(a:Int))(I:f w=(b:Int))(Kd:a<r.length)(hbl:b<r.length)(fa:f a=a)(fb:f b=b) :
  RL (r.set (max a b) ((min a b:Nat):Int)) (jn f v w):=by
 have key:∀ u:Int,jn f v w u=if f u=((max a b:Nat):Int)then((min a b:Nat):Int)else f u:=λu=>by unfold jn; rw[ha,I]; split<;>split<;>omega
 have fm:f ((min a b:Nat):Int)=((min a b:Nat):Int):=by rcases Nat.le_total a b with h | h<;>simp[Nat.min_eq_left,Nat.min_eq_right,h,fa,fb]
 have fM:f ((max a b:Nat):Int)=((max a b:Nat):Int):=by rcases Nat.le_total a b with h | h<;>simp[Nat.max_eq_left,Nat.max_eq_right,h,fa,fb]
 refine⟨λu hu => ?_,λu hu => ?_,λu hu => ?_⟩<;>simp only[List.length_set]at hu<;>rw[qA]
 ·split
  ·omega
  ·exact H.a u hu
 ·rw[key,key]
  split
  ·rename_i e; subst e; rw[fm,fM,if_pos rfl]; split<;>rfl
  ·rw[H.b u hu]
 ·rw[key]
  split
  ·rename_i e; subst e; intro e; rw[fM,if_pos rfl]; exact e
  ·rename_i e
   intro h
   rw[H.c u hu h,if_neg (O)]
end G
end Go.AM.PL
namespace Go.AM.Lf
open T PL
def VC(n:Int)(c:vI):Prop:=0<=c.1/\c.1<=4/\∀ t∈c.2.1,0<=t.1/\t.1<n
def vs(c:vI):List Int:=c.2.1.map (·.1)
theorem DX(c:vI):rl c.2.2.1<=cb c:=by unfold cb; omega
theorem gog{p:Prop} (h:p:=by
 intros
 repeat' (with_reducible first
  | refine zi ?_
  | refine zg (λ_ => ?_) (λ_ => ?_)
  | refine z8 ?_
  | refine ze ?_
  | refine uo ?_ ?_
  | refine qt ?_ ?_
  | refine vT ?_ ?_
  | refine vk ?_ ?_
  | refine zj ?_ ?_
  | refine vR (λ_ _ => ?_) (λ_ _ => ?_)
  | refine za ?_ (λ_ _ => ?_)
  | refine vA ?_ (λ_ _ => ?_)
  | refine xl ?_
  | dsimp only)
 all_goals grind [xe,uO,eF,jA,vV,zw,j4,yI,List.length_set,Wp,lh,V5]):p:=h
instance (n:Int) (c:vI) (s:Int×Int):Sp (tG n c.2.1 (c.2.1.length:Int) s) (s=(0,0)/\n<=1000000/\cg c/\cb c<=1000000/\c.2.1.length<=1000000) (λr=>match r with | .inl _=>∀ t∈c.2.1,0<=t.1/\t.1<n | .inr b=>b=false):=⟨λh=>by
 unfold tG
 refine eP c.2.1 (zb qj) (λ(_,i)=>i) (λx=>rg x.2.1/\rl x.2.1<=1000000) (λx=>0<=x.1/\x.1<n) (λ(g,i)=>0<=g/\0<=i) (λx N=>⟨h.2.2.1.1 x N,by have:=Xy N; have:=h.2.2.2.1; unfold cb at this; omega⟩) (xz) (λ⟨g,i⟩ x hj N he h0 R => ?_) λ⟨g,i⟩ hj he hp => ?_
 ·dsimp only at *
  unfold p9
  dsimp only
  rw[he]
  clear he
  exact gog
 ·dsimp only at *
  unfold p9
  clear h
  exact gog⟩
instance (c:vI) (n:Int):Sp (cY c n) (n<=1000000/\cg c/\cb c<=1000000/\c.2.1.length<=1000000) (λr=>r=true->VC n c):=⟨λh=>by
 have h1:rg c.2.2.1/\rl c.2.2.1<=1000000:=⟨h.2.1.2,by have:=DX c; omega⟩
 have M:0<=c.1->c.1<=4->(∀ t∈c.2.1,0<=t.1/\t.1<n)->VC n c:=λa b d=>⟨a,b,d⟩
 unfold cY
 exact gog⟩
theorem Pq{f:Int->Int}(n:Nat)(v:Int)(r:List Int)(h:G.RL r f/\0<=v/\v<n/\r.length=n):(yK (0,n) v r).wp λ(z:Int×List Int)=>G.RL z.2 f/\z.2.length=n/\z.1=f v/\0<=z.1/\z.1<n/\f z.1=z.1:=by
 unfold yK lq
 refine z8 (z8 (xl ?_))
 refine wj (P:=λ(z:Int×List Int)=>G.RL z.2 f/\z.2.length=n/\z.1=f v/\0<=z.1/\z.1<n/\f z.1=z.1) ?_ λz hz=>z8 (zi hz)
 refine vS (λ(b,c,a)=>b=(0,n)/\G.RL a f/\0<=c/\c<n/\a.length=n/\f c=f v) (λ(_,c,_)=>c.toNat) ⟨rfl,h.1,h.2.1,h.2.2.1,h.2.2.2,rfl⟩ λ⟨b,c,a⟩ ⟨h1,M,h3,h4,h5,h6⟩ => ?_
 subst h1
 obtain⟨k,rfl⟩:=X h3
 have hk:k<a.length:=O
 obtain⟨w,hw,hwk,hwl,hfw⟩:=M.at hk
 have e1:wh a (0+qM (k:Int)) (zb (.int .i64))=a[k]:=by simp[wh,hk]
 have e2:wh a (0+qM (w:Int)) (zb (.int .i64))=a[w]:=by simp[wh,hwl]
 unfold cF
 dsimp only
 rw[e1,hw,e2]
 refine zj ⟨O,O⟩ (zj ⟨rfl,by simp; omega⟩ (zg (λhn => ?_) λhn => ?_))
 ·have jZ:w≠k:=by rintro rfl; simp at hn
  obtain⟨x,N,hxw,I1,hfx⟩:=M.at hwl
  have e3:wh (a.set (0+qM (k:Int)) a[w]) (0+qM (k:Int)) (zb (.int .i64))=a[w]:=by simp[wh,hk]
  rw[e3]
  have hs:(0+qM (k:Int))=k:=O
  rw[hs]
  refine zj ⟨O,O⟩ (zj ⟨rfl,O⟩ (zj ⟨O,by simp; omega⟩ (zj ⟨rfl,by simp; omega⟩ (zj ⟨O,O⟩ (zj ⟨rfl,O⟩ (zj ⟨O,O⟩ (zj ⟨qz,by simp; omega⟩ (z8 (zj (qz) (zi ?_))))))))))
  dsimp only
  refine⟨⟨rfl,M.zfI hk hw hwl,O,O,by simp; omega,?_⟩,O⟩
  rw[N,hfx,hfw]; exact h6
 ·have:w=k:=by simp at hn; omega
  subst this
  have:=M.c w hk hw
  exact z8 (zi ⟨M,h5,by rw[<- h6,this],O,O,this⟩)
theorem z1f{f:Int->Int}(n:Nat)(v w:Int)(r:List Int)(h:G.RL r f/\0<=v/\v<n/\0<=w/\w<n/\r.length=n):(bg (0,n) v w r).wp λz=>G.RL z.2 (G.jn f v w)/\z.2.length=n/\z.1=decide (f v≠f w):=by
 obtain⟨h1,M,h3,h4,h5,h6⟩:=h
 obtain⟨v,rfl⟩:=X M
 obtain⟨w,rfl⟩:=X h4
 have h:=qL h1 (qL M (qL h3 (qL h4 (qL h5 h6))))
 unfold bg
 refine z8 (z8 (xl (wj (Pq n (v:Int) r ⟨h.1,h.2.1,h.2.2.1,h.2.2.2.2.2⟩) λz ⟨a1,a2,a3,a4,a5,a6⟩=>zj (O) (z8 (xl (wj (Pq n (w:Int) z.2 ⟨a1,h.2.2.2.1,h.2.2.2.2.1,a2⟩) λy ⟨b1,b2,b3,b4,b5,b6⟩ => ?_))))))
 have hm:lh z.1 y.1=max z.1 y.1:=by unfold lh; split<;>omega
 have hi:V5 z.1 y.1=min z.1 y.1:=by unfold V5; split<;>omega
 dsimp only
 rw[hm,hi]
 obtain⟨a,ha⟩:=X a4
 obtain⟨b,I⟩:=X b4
 have hj:=b1.join (v:=v) (w:=w) (a:=a) (b:=b) (O) (O) (O) (O) (by rw[<- ha]; exact a6) (by rw[<- I]; exact b6)
 have e1:0+(max z.1 y.1).toNat=max a b:=O
 have e2:min z.1 y.1=((min a b:Nat):Int):=O
 rw[e1,e2]
 refine zj ⟨O,O⟩ (zj ⟨O,O⟩ (zj (qz) (zi ⟨hj,by simp; omega,?_⟩)))
 rw[a3,b3]
 by_cases e:f v=f w<;>simp[e]
theorem z0b:∀ (a:List (List Int)) (b:List Int) (f:Int->Int) (i:Int),0<=i->G.U1 f i a = -1->G.U1 f i (a++[b])=if(G.MZ (a.foldl (λf c=>(G.MZ f c).1) f) b).2=true then -1 else i+a.length:=by
 intro a
 induction a with
 | nil=>intro b f i h0 h; simp[G.U1]
 | cons c a ih =>
  intro b f i h0 h
  unfold G.U1 at h
  rw[List.cons_append]
  unfold G.U1
  split at h
  ·rename_i e
   rw[if_pos e,ih b _ (i+1) (O) h,List.foldl_cons]
   simp only[List.length_cons]
   split
   ·rfl
   ·omega
  ·omega
open T PL
theorem z6j(n:Nat)(hn:n<=64)(d:List vI)(m:Int):(nP d m (n:Int) (0,qK n 0)).wp λr=>G.RL r id/\r.length=n:=by
 unfold nP
 refine vS (σ:=Int×List Int) (λ(b,a)=>0<=b/\b<=n/\a.length=n/\∀ (j:Nat) (h:j<a.length),(j:Int)<b->a[j]=j) (λ(b,_)=>(n-b).toNat) ⟨O,O,qz,λj h h'=>O⟩ λ⟨b,a⟩ ⟨h0,h1,M,h3⟩ => ?_
 unfold nR
 refine zg (λh => ?_) λh => ?_
 ·have h:=uA h
  refine qt ⟨O,O⟩ (zj ⟨rfl,O⟩ (uo (qz) (zi ?_)))
  rw[qv (O) (O)]
  refine⟨⟨O,O,by simp; omega,λj hj I => ?_⟩,by dsimp only; omega⟩
  rw[qA]
  split
  ·omega
  ·exact h3 j (by simpa using hj) (O)
 ·have h:=gm h
  exact ze (z8 (zi ⟨⟨λv hv=>by rw[h3 v hv (O)]; omega,λv hv=>by rw[h3 v hv (O)],λv hv _=>rfl⟩,M⟩))
theorem z3r(c:vI)(i:Int)(h0:0<=i)(h1:i<c.2.1.length):(vs c)[i.toNat]? = some (nth c.2.1 i (zb qj)).1:=by
 unfold vs nth
 rw[List.getElem?_map,B,zJ (O)]
 rfl
theorem zb2{f0:Int->Int}(n:Nat)(c:vI)(hc:VC n c)(R:c.2.1.length<=1000)(i first:Int)(k m q)(x5)(row:List Int)(hr:G.RL row f0)(hn:row.length=n) :
  (nQ k i x5 m q (first,1,row,c)).wp λ(z:Int×List Int×vI)=>G.RL z.2.1 (G.MZ f0 (vs c)).1/\z.2.1.length=n/\z.1=if first<0/\(G.MZ f0 (vs c)).2=false then i else first:=by
 unfold nQ
 obtain⟨t,r,hv⟩ | hv:(∃ t r,vs c=t::r)\/vs c=[]:=by cases vs c with | nil=>exact .inr rfl | cons t r=>exact .inl ⟨t,r,rfl⟩
 ·rw[hv]
  have hlen:c.2.1.length=r.length+1:=by have:=congrArg qI hv; unfold vs at this; simpa using this
  have ht:(nth c.2.1 0 (zb qj)).1=t:=by have:=z3r c 0 (O) (O); rw[hv]at this; simpa using this.symm
  show(T.loop _ _).wp λ(z:Int×List Int×vI)=>G.RL z.2.1 (G.Ki f0 t r).1/\z.2.1.length=n/\z.1=if first<0/\(G.Ki f0 t r).2=false then i else first
  refine vS (σ:=Int×Int×List Int×vI) (λ(f,e,a,b)=>b=c/\1<=e/\e<=c.2.1.length/\a.length=n/\∃ g ok,G.RL a g/\(G.Ki f0 t r).1=(G.Ki g t (r.drop (e-1).toNat)).1/\(G.Ki f0 t r).2=(ok&&(G.Ki g t (r.drop (e-1).toNat)).2)/\f=if first<0/\ok=false then i else first)
   (λ(_,e,_,_)=>(c.2.1.length-e).toNat) ⟨rfl,O,O,hn,f0,true,hr,qz,qz,qz⟩ λ⟨f,e,a,b⟩ ⟨h1,M,h3,h4,g,ok,h5,h6,h7,h8⟩ => ?_
  subst h1
  unfold eJ
  refine zg (λh => ?_) λh => ?_
  ·have h:=uA h
   have e0:=(hc.2.2 _ (xx (d:=zb qj) (i:=0) (O) (O)))
   have e1:=(hc.2.2 _ (xx (d:=zb qj) (i:=e) (O) h))
   have J:r.drop (e-1).toNat=(nth b.2.1 e (zb qj)).1::r.drop (e+1-1).toNat:=by
    have:=z3r b e (O) h
    rw[hv,show e.toNat=(e-1).toNat+1 by omega,List.getElem?_cons_succ]at this
    obtain⟨wM,he⟩:=List.getElem?_eq_some_iff.1 this
    rw[zY wM,he,show(e+1-1).toNat=(e-1).toNat+1 by omega]
   rw[J]at h6 h7
   rw[ht]at e0
   dsimp only
   rw[ht]
   generalize (nth b.2.1 e (zb qj)).1=w at *
   rw[h4]
   refine xl (qt ⟨O,O⟩ (qt ⟨O,h⟩ (z8 (z8 (xl (wj (z1f n t w a ⟨h5,e0.1,e0.2,e1.1,e1.2,h4⟩) λz hz => ?_))))))
   obtain⟨z1,z2⟩:=z
   obtain⟨k1,k2,k3⟩:=hz
   dsimp only at k1 k2 k3 ⊢
   have hw:qo (e+1)=e+1:=qv (O) (O)
   have N:(G.Ki g t (w::r.drop (e+1-1).toNat))=((G.Ki (G.jn g t w) t (r.drop (e+1-1).toNat)).1,decide (g t≠g w)&&(G.Ki (G.jn g t w) t (r.drop (e+1-1).toNat)).2):=rfl
   rw[N]at h6 h7
   have fin:∀ f',(f'=if first<0/\(ok&&decide (g t≠g w))=false then i else first)->f'=f'->b=b/\1<=e+1/\e+1<=b.2.1.length/\z2.length=n/\∃ g ok,G.RL z2 g/\(G.Ki f0 t r).1=(G.Ki g t (r.drop (e+1-1).toNat)).1/\(G.Ki f0 t r).2=(ok&&(G.Ki g t (r.drop (e+1-1).toNat)).2)/\f'=if first<0/\ok=false then i else first :=
    λf' hf _=>⟨rfl,O,O,k2,_,_,k1,h6,by rw[h7,Bool.and_assoc],hf⟩
   refine zg (λhz => ?_) λhz => ?_
   ·refine zj ⟨k2.symm,rfl,k2.symm⟩ (z8 (zi (zg (λh9 => ?_) λh9 => ?_)))
    ·have h9:=uA h9
     refine ze (z8 (zi ?_))
     rw[hw]
     have e:g t=g w:=by rw[k3]at hz; simpa using hz
     refine⟨fin i ?_ rfl,by dsimp only; omega⟩
     rw[h8]at h9
     simp only[e,ne_eq,not_true_eq_false,decide_false,Bool.and_false,and_true]
     split
     ·rfl
     ·rename_i h10; rw[if_neg (λh=>h10 h.1)]at h9; exact absurd h9 h10
    ·have h9:=gm h9
     refine ze (z8 (zi ?_))
     rw[hw]
     have e:g t=g w:=by rw[k3]at hz; simpa using hz
     refine⟨fin f ?_ rfl,by dsimp only; omega⟩
     rw[h8]at h9 ⊢
     simp only[e,ne_eq,not_true_eq_false,decide_false,Bool.and_false,and_true]
     by_cases h10:first<0/\ok=false
     ·rw[if_pos h10,if_pos h10.1]
     ·rw[if_neg h10]at h9 ⊢; rw[if_neg h9]
   ·refine zj ⟨k2.symm,rfl,k2.symm⟩ (z8 (zi (zg (λh9=>nomatch h9) λ_ => ?_)))
    refine ze (z8 (zi ?_))
    rw[hw]
    have e:decide (g t≠g w)=true:=by rw[k3]at hz; simpa using hz
    refine⟨fin f ?_ rfl,by dsimp only; omega⟩
    rw[e,Bool.and_true]; exact h8
  ·have h:=gm h
   rw[qC (O)]at h6 h7
   refine ze (z8 (zi ⟨by rw[h6]; exact h5,h4,?_⟩))
   rw[h7]
   simpa[G.Ki]using h8
 ·rw[hv]
  have hlen:c.2.1.length=0:=by have:=congrArg qI hv; unfold vs at this; simpa using this
  refine vS (λs=>s=(first,1,row,c)) (λ_=>0) rfl λs hs => ?_
  subst hs
  unfold eJ
  exact zg (λh=>absurd (uA h) (by rw[hlen]; omega)) λ_=>ze (z8 (zi ⟨hr,hn,by simp[G.MZ]⟩))
open T PL
def cw(c:vI):Prop:=cg c/\cb c<=1000000/\c.2.1.length<=1000
def Ac(n:Int)(l:List vI):Prop:=l.length<=1000/\∀ c∈l,cw c/\(cY c n).run=some true
theorem Ac.vc{n:Int}{l:List vI}(h:Ac n l)(hn:n<=64){c:vI}(hc:c∈l):VC n c:=by
 obtain⟨h1,M⟩:=h.2 c hc
 exact Gz ((inferInstance:Sp (cY c n) (n<=1000000/\cg c/\cb c<=1000000/\c.2.1.length<=1000000) (λr=>r=true->VC n c)).sp ⟨O,h1.1,h1.2.1,by have:=h1.2.2; omega⟩) M rfl
instance (l:List vI) (n:Int):Sp (mY l n) (0<=n/\n<=64/\Ac n l) (λr => -1<=r/\r<l.length/\(r<0->G.U1 id 0 (l.map vs) = -1)):=⟨λ⟨h0,h1,M⟩=>by
 obtain⟨n,rfl⟩:=X h0
 have R:=M.1
 have e1:V5 (lh (n:Int) 0) 64=(n:Int):=by unfold V5 lh; split<;>split<;>omega
 unfold mY ZJ
 dsimp only
 rw[e1,zS]
 refine xl (zj ⟨O,O,O,O⟩ (uo (qz) (xl (wj (z6j n (O) l n) λrow ⟨a1,a2⟩=>ze (z8 (xl ?_))))))
 refine wj (P:=λ(z:Int×List Int) => -1<=z.1/\z.1<l.length/\(z.1<0->G.U1 id 0 (l.map vs) = -1)) ?_ λz hz=>z8 (zi (zi hz))
 unfold Qp
 refine vS (σ:=Int×Int×List Int) (λ(e,b,a)=>0<=b/\b<=l.length/\a.length=n/\G.RL a (((l.take b.toNat).map vs).foldl (λf c=>(G.MZ f c).1) id) /\ -1<=e/\e<max b 1/\(e<b)/\(e<0->G.U1 id 0 ((l.take b.toNat).map vs) = -1)) (λ(_,b,_)=>(l.length-b).toNat)
  ⟨O,O,a2,by simpa using a1,O,O,O,λ_=>rfl⟩ λ⟨e,b,a⟩ ⟨b0,b1,b2,b3,b4,b5,b6,b7⟩ => ?_
 unfold nS
 refine zg (λh => ?_) λh => ?_
 ·have h:=uA h
  have hm:=xx (d:=zb zr) b0 h
  have hv:=M.vc h1 hm
  obtain⟨k1,k2⟩:=M.2 _ hm
  have ht:=mn l b (zb zr) b0 h
  have hw:qo (b+1)=b+1:=qv (O) (O)
  dsimp only
  generalize nth l b (zb zr)=c at *
  refine qt ⟨b0,h⟩ (xl (kY k2 (zg nofun λ_=>ze (z8 (xl (wj (zb2 n c hv k1.2.2 b e _ _ _ _ a b3 b2) λz hz => ?_))))))
  obtain⟨z1,z2,z3⟩:=z
  obtain⟨c1,c2,c3⟩:=hz
  refine ze (z8 (zi ?_))
  dsimp only at c1 c2 c3 ⊢
  rw[hw,ht,qD,List.foldl_append]
  refine⟨⟨O,O,c2,by simpa using c1,?_,?_,?_,λhz => ?_⟩,O⟩
  ·rw[c3]; split<;>omega
  ·rw[c3]; split<;>omega
  ·rw[c3]; split<;>omega
  ·rw[c3]at hz
   have he:e<0:=by split at hz<;>omega
   rw[List.map_singleton,z0b _ _ _ _ (O) (b7 he)]
   split
   ·rfl
   ·rename_i hf
    rw[if_pos ⟨he,by simpa using hf⟩]at hz
    omega
 ·have h:=gm h
  have e2:l.take b.toNat=l:=zL (O)
  rw[e2]at b7
  exact ze (z8 (zi ⟨b4,by dsimp only; omega,b7⟩))⟩
instance (l:List vI) (n:Int):Sp (oD l n) (0<=n/\n<=64/\Ac n l) (λr=>r=true->G.U1 id 0 (l.map vs) = -1):=⟨λh=>by unfold oD; exact gog⟩
open T PL
def mx(S:Int->Int)(v w:Int)(l:List Term):Int:=l.foldl (λw t=>if t.1=v then w else max w (S t.1)) w
theorem Ue{S S':Int->Int}{v:Int}:∀ (l:List Term) (w:Int),(∀ t∈l,t.1≠v->S t.1=S' t.1)->mx S v w l=mx S' v w l
 | [],_,_=>rfl
 | t::r,w,h=>by
  show mx S v (if t.1=v then w else max w (S t.1)) r=mx S' v (if t.1=v then w else max w (S' t.1)) r
  rw[Ue r _ λu hu=>h u (zM _ hu)]
  by_cases e:t.1=v
  ·rw[if_pos e,if_pos e]
  ·rw[if_neg e,if_neg e,h t zV e]
abbrev di:Int:=zb (.int .i64)
structure Ch(n:Nat)(l:List vI)(o b:List Int):Prop where
 ac:Ac n l
 n1:1<=n
 n64:n<=64
 fr:G.U1 id 0 (l.map vs) = -1
 ol:o.length=l.length
 bl:b.length=n
 oc:∀ i:Int,0<=i->i<l.length->nth o i di = -1\/(nth o i di∈vs (nth l i (zb zr))/\nth b (nth o i di) di=i)
 bc:∀ v:Int,0<=v->v<n->nth b v di = -1\/(0<=nth b v di/\nth b v di<l.length/\nth o (nth b v di) di=v)
theorem iv{c:vI}{v:Int}:v∈vs c↔∃ t∈c.2.1,t.1=v:=by unfold vs; simp
theorem Ch.vr{n:Nat}{l:List vI}{o b:List Int}(h:Ch n l o b){i:Int}(h0:0<=i)(h1:i<l.length){v:Int}(hv:v∈vs (nth l i (zb zr))):0<=v/\v<n:=by
 obtain⟨t,ht,rfl⟩:=iv.1 hv
 exact(h.ac.vc (by have:=h.n64; omega) (xx h0 h1)).2.2 t ht
theorem Pm{l:List vI}{o:List Int}(hf:G.U1 id 0 (l.map vs) = -1):∃ (rk:Int->Nat) (zA:Nat),(∀ v,rk v<=zA)/\∀ i:Int,0<=i->i<l.length->i<o.length->nth o i di∈vs (nth l i (zb zr))->∀ t∈vs (nth l i (zb zr)),t≠nth o i di->rk t<rk (nth o i di):=by
 obtain⟨rk,zA,hB,hA⟩:=G.zkV (l.map vs) o id 0 (λ_=>0) 0 [] [] (O) hf rfl (λ_=>zT _) (λc hc=>by cases hc) (λi h=>by cases h)
 simp only[List.nil_append]at hA
 refine⟨rk,zA,hB,λi h0 h1 M hm t ht jZ => ?_⟩
 obtain⟨k,rfl⟩:=X h0
 have hk:k<l.length:=O
 have Kz:k<o.length:=O
 have e1:nth o (k:Int) di=o[k]:=by simp[nth,Kz]
 have e2:nth l (k:Int) (zb zr)=l[k]:=by simp[nth,hk]
 rw[e1]at hm jZ ⊢
 rw[e2]at hm ht
 exact hA k (by simpa using hk) Kz (by simpa using hm) t (by simpa using ht) jZ
def sN(l:List vI)(b:List Int):Nat->Int->Int
 | 0,_=>4
 | k+1,v=>if nth b v di = -1 then 4 else mx (sN l b k) v (nth l (nth b v di) (zb zr)).1 (nth l (nth b v di) (zb zr)).2.1
def Sg(n:Nat)(l:List vI)(b:List Int)(S:Int->Int):Prop:=∀ v:Int,0<=v->v<n->S v=if nth b v di = -1 then 4 else mx S v (nth l (nth b v di) (zb zr)).1 (nth l (nth b v di) (zb zr)).2.1
def Rk(n:Nat)(l:List vI)(b:List Int)(rk:Int->Nat):Prop:=∀ v:Int,0<=v->v<n->nth b v di ≠ -1->∀ t∈vs (nth l (nth b v di) (zb zr)),t≠v->rk t<rk v
theorem Ch.rk{n:Nat}{l:List vI}{o b:List Int}(h:Ch n l o b):∃ (rk:Int->Nat) (zA:Nat),(∀ v,rk v<=zA)/\Rk n l b rk:=by
 obtain⟨rk,zA,hB,hr⟩:=Pm (o:=o) h.fr
 refine⟨rk,zA,hB,λv h0 h1 I t ht jZ => ?_⟩
 rcases h.bc v h0 h1 with e | ⟨b0,b1,b2⟩
 ·exact absurd e I
 ·have hm:nth o (nth b v di) di∈vs (nth l (nth b v di) (zb zr)):=by
   rcases h.oc _ b0 b1 with e | e
   ·rw[e]at b2; omega
   ·exact e.1
  have:=hr _ b0 b1 (by rw[h.ol]; exact b1) hm t ht (by rw[b2]; exact jZ)
  rwa [b2]at this
theorem Ch.sg{n:Nat}{l:List vI}{o b:List Int}(h:Ch n l o b):∃ S,Sg n l b S:=by
 obtain⟨rk,zA,hB,hr⟩:=h.rk
 have more:∀ (k:Nat) (v:Int),0<=v->v<n->rk v<k->sN l b (k+1) v=sN l b k v:=by
  intro k
  induction k with
  | zero=>intro v _ _ hk; omega
  | succ k ih =>
   intro v h0 h1 hk
   show(if nth b v di = -1 then 4 else _)=(if nth b v di = -1 then 4 else _)
   by_cases e:nth b v di = -1
   ·rw[if_pos e,if_pos e]
   ·rw[if_neg e,if_neg e]
    refine Ue _ _ λt ht jZ => ?_
    have hm:t.1∈vs (nth l (nth b v di) (zb zr)):=iv.2 ⟨t,ht,rfl⟩
    rcases h.bc v h0 h1 with e' | ⟨b0,b1,_⟩
    ·exact absurd e' e
    ·have hv:=h.vr b0 b1 hm
     exact ih t.1 hv.1 hv.2 (by have:=hr v h0 h1 e t.1 hm jZ; omega)
 refine⟨sN l b (zA+1),λv h0 h1 => ?_⟩
 rw[<- more (zA+1) v h0 h1 (by have:=hB v; omega)]
 rfl
open T PL
theorem z01{α:Type}(l:List α)(i:Int)(d:α)(h0:0<=i)(h:i<l.length):l.drop i.toNat=nth l i d::l.drop (i+1).toNat:=by
 have e:(i+1).toNat=i.toNat+1:=O
 rw[zY (O),e]
 unfold nth
 simp[B,show i.toNat<l.length by omega]
theorem z8d(a b:Int):lh a b=max a b:=by unfold lh; split<;>omega
theorem BF{n:Nat}{l:List vI}{o b:List Int}(h:Ch n l o b){S:Int->Int}(hS:Sg n l b S){rk:Int->Nat}(hr:Rk n l b rk)(v:Int)(hv:0<=v/\v<n) :
  (jJ v (l,()) o b).wp λr=>r=(S v,(l,()),o,b):=by
 unfold jJ
 refine sk (x:=(v,(l,()),o,b)) (σ:=Int×(List vI×Unit)×List Int×List Int) (ρ:=Int×(List vI×Unit)×List Int×List Int) (λ(v,c,x,y)=>(c=(l,())/\x=o/\y=b)/\0<=v/\v<n) (λ(v,_)=>rk v) (λ(v,_) r=>r=(S v,(l,()),o,b)) ?_ ?_ ⟨⟨rfl,rfl,rfl⟩,hv⟩
 ·intro g g' hg x
  unfold j5 gT kc
  exact mono
 ·rintro⟨v,c,x,y⟩ ⟨⟨rfl,rfl,rfl⟩,hv⟩ g hg
  dsimp only at hg hv ⊢
  unfold j5
  simp only[rM]
  have hs:=hS v hv.1 hv.2
  refine qt ⟨hv.1,by rw[h.bl]; exact hv.2⟩ (zj ⟨rfl,by rw[h.bl]; omega⟩ (zg (λe => ?_) λe => ?_))
  ·rw[if_pos (by simpa using e)]at hs
   exact ze (ze (z8 (z8 (zi (by rw[hs])))))
  ·have e:¬ nth y v di = -1:=by simpa using e
   rw[if_neg e]at hs
   rcases h.bc v hv.1 hv.2 with k | ⟨b0,b1,_⟩
   ·exact absurd k e
   have Dy:=hr v hv.1 hv.2 e
   have hvr:=λt ht=>h.vr b0 b1 (v:=t) ht
   have hlen:(nth l (nth y v di) (zb zr)).2.1.length<=1000:=(h.ac.2 _ (xx b0 b1)).1.2.2
   generalize hc:nth l (nth y v di) (zb zr)=c at *
   refine qt ⟨b0,b1⟩ (qt ⟨b0,b1⟩ (ze (ze (z8 (z8 (xl ?_))))))
   refine wj (P:=λz=>z=(S v,(l,()),x,y)) ?_ λz hz=>by subst hz; exact ze (ze (z8 (z8 (zi rfl))))
   unfold gT
   refine vS (σ:=Int×Int×(List vI×Unit)×List Int×List Int) (λ(f,i,q,a,d)=>(q=(l,())/\a=x/\d=y)/\0<=i/\i<=c.2.1.length/\mx S v f (c.2.1.drop i.toNat)=S v) (λ(_,i,_)=>(c.2.1.length-i).toNat) ⟨⟨rfl,rfl,rfl⟩,O,O,hs.symm⟩ ?_
   rintro⟨f,i,q,a,d⟩ ⟨⟨rfl,rfl,rfl⟩,i0,i1,hm⟩
   unfold kc
   refine zg (λhi => ?_) λhi => ?_
   ·have hi:=uA hi
    rw[z01 _ _ (zb qj) i0 hi]at hm
    have ht:=xx (d:=zb qj) i0 hi
    have hw:qo (i+1)=i+1:=qv (O) (O)
    dsimp only
    generalize nth c.2.1 i (zb qj)=t at *
    have hm:mx S v (if t.1=v then f else max f (S t.1)) (c.2.1.drop (i+1).toNat)=S v:=hm
    have htv:t.1∈vs c:=iv.2 ⟨t,ht,rfl⟩
    refine qt ⟨i0,hi⟩ (zg (λe => ?_) λe => ?_)
    ·have e:t.1≠v:=by simpa using e
     rw[if_neg e]at hm
     refine ze (ze (z8 (z8 (xl (wj (hg (t.1,(l,()),a,d) ⟨⟨rfl,rfl,rfl⟩,hvr _ htv⟩ (Dy _ htv e)) λz hz => ?_)))))
     subst hz
     refine ze (ze (z8 (z8 (zi ?_))))
     rw[hw,z8d]
     refine⟨⟨⟨rfl,rfl,rfl⟩,?_,?_,hm⟩,?_⟩<;>clear hs Dy hvr hm<;>simp only<;>omega
    ·have e:t.1=v:=by simpa using e
     rw[if_pos e]at hm
     refine ze (ze (z8 (z8 (zi ?_))))
     rw[hw]
     refine⟨⟨⟨rfl,rfl,rfl⟩,?_,?_,hm⟩,?_⟩<;>clear hs Dy hvr hm<;>simp only<;>omega
   ·have hi:=gm hi
    rw[qC (O)]at hm
    exact ze (ze (z8 (z8 (zi (by have:f=S v:=hm; rw[this])))))
def Wk1(S:Int->Int)(taken:List Int)(w:Int)(l:List Term)(j:Int):Prop:=(j = -1/\∀ t∈l,t.1∈taken\/S t.1<=w)\/((∃ t∈l,t.1=j)/\j ∉ taken/\w<S j/\∀ t∈l,t.1∈taken\/S t.1<=S j)
theorem M4{n:Nat}{l:List vI}{o b:List Int}(h:Ch n l o b){S:Int->Int}(hS:Sg n l b S){rk:Int->Nat}(hr:Rk n l b rk)(i:Int)(hi:0<=i/\i<l.length)(q:List Int) :
  (yc i (l,()) q o b).wp λr=>r.2=((l,()),q,o,b)/\Wk1 S q (nth l i (zb zr)).1 (nth l i (zb zr)).2.1 r.1:=by
 unfold yc
 have hvr:=λt ht=>h.vr hi.1 hi.2 (v:=t) ht
 have hlen:(nth l i (zb zr)).2.1.length<=1000:=(h.ac.2 _ (xx hi.1 hi.2)).1.2.2
 dsimp only
 generalize nth l i (zb zr)=c at *
 refine qt hi (qt hi (ze (ze (z8 (z8 (xl ?_))))))
 refine wj (P:=λz=>z.2=((l,()),q,o,b)/\Wk1 S q c.1 c.2.1 z.1) ?_ λz hz=>by
  obtain⟨z1,z2⟩:=z
  obtain⟨rfl,hz⟩:=hz
  exact ze (ze (z8 (z8 (zi ⟨rfl,hz⟩))))
 unfold dU
 refine vS (σ:=Int×Int×Int×(List vI×Unit)×List Int×List Int×List Int) (λ(j,k,i,q',g,a,d)=>(q'=(l,())/\g=q/\a=o/\d=b)/\0<=i/\i<=c.2.1.length/\(j = -1/\k=c.1\/j ≠ -1/\k=S j)/\Wk1 S q c.1 (c.2.1.take i.toNat) j) (λ(_,_,i,_)=>(c.2.1.length-i).toNat)
  ⟨⟨rfl,rfl,rfl,rfl⟩,O,O,.inl ⟨rfl,rfl⟩,.inl ⟨rfl,λt ht=>by simp at ht⟩⟩ ?_
 rintro⟨j,k,i,q',g,a,d⟩ ⟨⟨rfl,rfl,rfl,rfl⟩,i0,i1,hk,hw⟩
 unfold gi
 refine zg (λhi => ?_) λhi => ?_
 ·have hi:=uA hi
  have ht:=xx (d:=zb qj) i0 hi
  have hts:=mn c.2.1 i (zb qj) i0 hi
  have hwi:qo (i+1)=i+1:=qv (O) (O)
  dsimp only
  generalize nth c.2.1 i (zb qj)=t at *
  have htr:=hvr _ (iv.2 ⟨t,ht,rfl⟩)
  refine qt ⟨i0,hi⟩ (ze (ze (z8 (z8 (xl (wj (BF h hS hr t.1 htr) λz hz => ?_))))))
  subst hz
  have hwf:wfI t.1:=by
   have:=h.n64
   have:=htr.1
   have:=htr.2
   show(decide (-9223372036854775808<=t.1)&&decide (t.1<=9223372036854775807))=true
   rw[zU,decide_eq_true_eq,decide_eq_true_eq]; exact⟨zP (xn) htr.1,zP (qB htr.2) (O)⟩
  refine zj hwf (zg (λe=>ze (ze (z8 (z8 (zi ?_))))) λe=>ze (ze (z8 (z8 (zi ?_)))))
  ·simp only[zU,Bool.not_eq_true',decide_eq_true_eq,zW,decide_eq_false_iff_not]at e
   rw[hwi]
   have zsF:=htr.1
   have e2:=e.2
   refine⟨⟨⟨rfl,rfl,rfl,rfl⟩,by simp only; omega,by simp only; omega,.inr ⟨by simp only; omega,rfl⟩,?_⟩,by simp only; omega⟩
   show Wk1 S g c.1 (c.2.1.take (i+1).toNat) t.1
   rw[hts]
   refine .inr ⟨⟨t,qz,rfl⟩,e.1,?_,λu hu => ?_⟩
   ·rcases hk with⟨_,hk⟩ | ⟨hj,hk⟩
    ·omega
    ·rcases hw with hw | hw
     ·exact absurd hw.1 hj
     ·have:=hw.2.2.1; omega
   ·rcases zG.1 hu with hu | hu
    ·rcases hk with⟨hj,hk⟩ | ⟨hj,hk⟩
     ·rcases hw with hw | hw
      ·exact(hw.2 u hu).imp_right λx=>O
      ·obtain⟨u',RW,e'⟩:=hw.1
       exfalso
       have:=hvr _ (iv.2 ⟨u',zF RW,rfl⟩)
       have e3:u'.1=j:=e'
       have e4:j = -1:=hj
       rw[e3,e4]at this
       exact absurd this.1 (xn)
     ·rcases hw with hw | hw
      ·exact absurd hw.1 hj
      ·exact(hw.2.2.2 u hu).imp_right λx=>O
    ·rw[zE.1 hu]; exact .inr (qH _)
  ·simp only[Bool.and_eq_false_iff,Bool.not_eq_false',decide_eq_false_iff_not,zW,decide_eq_true_eq]at e
   rw[hwi]
   refine⟨⟨⟨rfl,rfl,rfl,rfl⟩,by simp only; omega,by simp only; omega,hk,?_⟩,by simp only; omega⟩
   show Wk1 S g c.1 (c.2.1.take (i+1).toNat) j
   rw[hts]
   rcases hw with hw | hw
   ·refine .inl ⟨hw.1,λu hu => ?_⟩
    rcases zG.1 hu with hu | hu
    ·exact hw.2 u hu
    ·rw[zE.1 hu]
     rcases hk with hk | hk
     ·exact e.imp_right λx=>O
     ·exact absurd hw.1 hk.1
   ·refine .inr ⟨by obtain⟨u,hu,e'⟩:=hw.1; exact⟨u,by simp[hu],e'⟩,hw.2.1,hw.2.2.1,λu hu => ?_⟩
    rcases zG.1 hu with hu | hu
    ·exact hw.2.2.2 u hu
    ·rw[zE.1 hu]
     rcases hk with hk | hk
     ·obtain⟨u',RW,e'⟩:=hw.1
      exfalso
      have:=hvr _ (iv.2 ⟨u',zF RW,rfl⟩)
      have e3:u'.1=j:=e'
      have e4:j = -1:=hk.1
      rw[e3,e4]at this
      exact absurd this.1 (xn)
     ·exact e.imp_right λx=>O
 ·have hi:=gm hi
  rw[zL (O)]at hw
  exact ze (ze (z8 (z8 (zi ⟨rfl,hw⟩))))
open T PL
abbrev tr(l:List vI)(i:Int):Int:=(nth l i (zb zr)).1
abbrev tm(l:List vI)(i:Int):List Term:=(nth l i (zb zr)).2.1
abbrev vl(l:List vI)(i:Int):List Int:=vs (nth l i (zb zr))
def sq:List vI->List Int->Int
 | c::l,w::o=>(if w = -1 then 0 else 5-c.1)+sq l o
 | _,_=>0
theorem CY:∀ (l:List vI) (o:List Int) (k:Nat) (w:Int),k<l.length->k<o.length->sq l (o.set k w)=sq l o+(if w = -1 then 0 else 5-(l.getD k (zb zr)).1)-(if o.getD k di = -1 then 0 else 5-(l.getD k (zb zr)).1)
 | c::l,x::o,0,w,_,_=>by simp only[List.set_cons_zero,sq,List.getD_cons_zero]; omega
 | c::l,x::o,k+1,w,h,h'=>by
  have:=CY l o k w (by simpa using h) (by simpa using h')
  simp only[List.set_cons_succ,sq,List.getD_cons_succ]
  omega
theorem z2M:∀ (l:List vI) (o:List Int),(∀ c∈l,0<=c.1/\c.1<=4)->0<=sq l o/\sq l o<=5*l.length
 | [],[],_ | [],_::_,_ | _::_,[],_=>by simp only[sq,qI]; omega
 | c::l,x::o,h=>by
  have h1:=z2M l o λc hc=>h c (zM _ hc)
  obtain⟨M,h3⟩:=h c zV
  have M:(0:Int)<=c.1:=M
  have h3:(4:Int) >= c.1:=h3
  simp only[sq,List.length_cons]
  split<;>omega
theorem Vh{α:Type}{l:List α}{i j:Int}{x d:α}(h0:0<=i)(h1:i<l.length)(h:0<=j):nth (l.set (0+i.toNat) x) j d=if j=i then x else nth l j d:=by
 unfold nth
 rw[B,List.getElem?_set,B]
 by_cases e:j=i
 ·rw[if_pos (O),if_pos (O),if_pos e]; rfl
 ·rw[if_neg (O),if_neg e]
theorem TP{p q:Nat->Bool}{a:Nat}:∀ (l:List Nat),(∀ x,q x=true->p x=true)->a∈l->p a=true->q a=false->l.countP q<l.countP p
 | x::l,h,ha,h1,M=>by
  rw[List.countP_cons,List.countP_cons]
  have hle:l.countP q<=l.countP p:=List.countP_mono_left λx _=>h x
  rcases zR.1 ha with rfl | hm
  ·rw[h1,M]; simp only[if_true,Bool.false_eq_true,if_false]; exact Nat.lt_succ_of_le hle
  ·have:=TP l h hm h1 M
   cases hq:q x
   ·rw[if_neg (xn)]; omega
   ·rw[h x hq,if_pos rfl]; omega
def un(n:Nat)(s:List Int):Nat:=(List.range n).countP λ(v:Nat) => !s.contains (v:Int)
theorem zl7{n:Nat}{s s':List Int}{j:Int}(hs:∀ x∈s,x∈s')(h:j∈s')(h':j ∉ s)(h0:0<=j)(h1:j<n):un n s'<un n s:=by
 obtain⟨k,rfl⟩:=X h0
 refine TP (a:=k) _ (λx N => ?_) (List.mem_range.2 (O)) (by simpa using h') (by simpa using h)
 simp only[Bool.not_eq_true',zW,decide_eq_false_iff_not]at N ⊢
 exact λk=>N (hs _ k)
theorem z2j{S:Int->Int}{v h2:Int}:∀ (l:List Term) (w:Int),w<=h2->(∀ t∈l,t.1≠v->S t.1<=h2)->mx S v w l<=h2
 | [],_,h,_=>h
 | t::r,w,h,k=>by
  refine z2j r _ ?_ λu hu=>k u (zM _ hu)
  dsimp only
  split
  ·exact h
  ·have:=k t zV ‹_›
   omega
section
variable {n:Nat} {l:List vI} {o b o2 b2:List Int} {c j:Int}
theorem Ch.step(h:Ch n l o b)(c0:0<=c)(c1:c<l.length)(ho:nth o c di = -1)(hj:j∈vl l c)(l2:o2.length=l.length)
  (e2:∀ k:Int,0<=k->k<l.length->nth o2 k di=if k=c then j else if k=nth b j di then -1 else nth o k di) (l3:b2.length=n) (e3:∀ v:Int,0<=v->nth b2 v di=if v=j then c else nth b v di):Ch n l o2 b2:=by
 have Ds:=h.vr c0 c1 hj
 have hbj:=h.bc j Ds.1 Ds.2
 refine⟨h.ac,h.n1,h.n64,h.fr,l2,l3,λi i0 i1 => ?_,λv v0 v1 => ?_⟩
 ·rw[e2 i i0 i1]
  by_cases k:i=c
  ·rw[if_pos k,e3 j Ds.1,if_pos rfl,k]; exact .inr ⟨hj,rfl⟩
  ·rw[if_neg k]
   by_cases k':i=nth b j di
   ·rw[if_pos k']; exact .inl rfl
   ·rw[if_neg k']
    refine(h.oc i i0 i1).imp_right λ⟨m,e⟩=>⟨m,?_⟩
    rw[e3 _ (h.vr i0 i1 m).1,if_neg (λx=>k' (by rw[<- x,e]))]
    exact e
 ·rw[e3 v v0]
  by_cases k:v=j
  ·rw[if_pos k,e2 c c0 c1,if_pos rfl]; exact .inr ⟨c0,c1,k.symm⟩
  ·rw[if_neg k]
   refine(h.bc v v0 v1).imp_right λ⟨b0,b1,e⟩=>⟨b0,b1,?_⟩
   rw[e2 _ b0 b1,if_neg (λx=>by rw[x,ho]at e; omega),if_neg (λx => ?_)]
   ·exact e
   ·rcases hbj with y | y
    ·rw[x,y]at b0; exact absurd b0 (xn)
    ·exact k (by rw[<- e,x,y.2.2])
theorem z8T(h:Ch n l o b){rk:Int->Nat}(hr:Rk n l b rk){S S':Int->Int}(hS:Sg n l b S)(e3:∀ v:Int,0<=v->nth b2 v di=if v=j then c else nth b v di)(hS':Sg n l b2 S') :
  ∀ (k:Nat) (u:Int),0<=u->u<n->rk u<k->rk u<rk j->S' u=S u:=by
 intro k
 induction k with
 | zero=>intro u _ _ h; omega
 | succ k ih =>
  intro u u0 u1 hk hj
  have e:nth b2 u di=nth b u di:=by rw[e3 u u0,if_neg (λx=>by rw[x]at hj; omega)]
  rw[hS' u u0 u1,hS u u0 u1,e]
  by_cases x:nth b u di = -1
  ·rw[if_pos x,if_pos x]
  ·rw[if_neg x,if_neg x]
   refine Ue _ _ λt ht jZ => ?_
   have hm:=iv.2 ⟨t,ht,rfl⟩
   rcases h.bc u u0 u1 with y | ⟨b0,b1,_⟩
   ·exact absurd y x
   ·have hv:=h.vr b0 b1 hm
    have:=hr u u0 u1 x t.1 hm jZ
    exact ih t.1 hv.1 hv.2 (O) (O)
def TK(l:List vI)(o s:List Int)(v:Int):Prop:=∀ rk:Int->Nat,(∀ m:Int,0<=m->m<l.length->nth o m di∈s->∀ t∈vl l m,t≠nth o m di->rk t<rk (nth o m di))->∀ u∈s,rk u<=rk v
theorem TK.free{s:List Int}{v:Int}(k:TK l o s v)(h:Ch n l o b)(hs:∀ x∈s,0<=x/\x<n)(c0:0<=c)(c1:c<l.length)(ho:nth o c di = -1)(hv:v∈vl l c){t:Int}(ht:t∈vl l c)(jZ:t≠v):t ∉ s:=λhts=>by
 obtain⟨rk,zA,_,hr⟩:=Pm (o:=o.set (0+c.toNat) t) h.fr
 have Tf:=h.ol
 have hc:nth (o.set (0+c.toNat) t) c di=t:=by rw[Vh c0 (O) c0,if_pos rfl]
 have h1:=hr c c0 c1 (by rw[List.length_set]; omega) (by rw[hc]; exact ht) v hv (by rw[hc]; exact jZ.symm)
 rw[hc]at h1
 have M:=k rk (λm m0 m1 hm u hu jZ => ?_) t hts
 ·omega
 ·have hmc:m≠c:=λx=>by rw[x,ho]at hm; exact absurd (hs _ hm).1 (xn)
  have e:nth (o.set (0+c.toNat) t) m di=nth o m di:=by rw[Vh c0 (O) m0,if_neg hmc]
  have:=hr m m0 m1 (by rw[List.length_set]; omega)
  rw[e]at this
  refine this ?_ u hu jZ
  rcases h.oc m m0 m1 with x | x
  ·rw[x]at hm; exact absurd (hs _ hm).1 (xn)
  ·exact x.1
theorem TK.step{s:List Int}(h:Ch n l o b)(hs:∀ x∈s,0<=x/\x<n)(c0:0<=c)(c1:c<l.length)(ho:nth o c di = -1)(hj:j∈vl l c)(hjs:j ∉ s)
  (e2:∀ k:Int,0<=k->k<l.length->nth o2 k di=if k=c then j else if k=nth b j di then -1 else nth o k di) (hk:s=[]\/∃ v∈vl l c,TK l o s v):TK l o2 (s++vl l c) j:=λrk hrk=>by
 have hc:∀ t∈vl l c,rk t<=rk j:=λt ht=>by
  by_cases e:t=j
  ·rw[e]; exact zT _
  ·have:=hrk c c0 c1
   rw[e2 c c0 c1,if_pos rfl]at this
   exact Nat.le_of_lt (this (qF _ hj) t ht e)
 intro u hu
 rcases zG.1 hu with hu | hu
 ·rcases hk with rfl | ⟨v,hv,hk⟩
  ·cases hu
  ·refine E (hk rk (λm m0 m1 hm => ?_) u hu) (hc v hv)
   have hmc:m≠c:=λx=>by rw[x,ho]at hm; exact absurd (hs _ hm).1 (xn)
   have hmb:m≠nth b j di:=λx=>by
    have Ds:=h.vr c0 c1 hj
    rcases h.bc j Ds.1 Ds.2 with y | y
    ·rw[x,y]at m0; exact absurd m0 (xn)
    ·rw[x,y.2.2]at hm; exact hjs hm
   have:=hrk m m0 m1
   rw[e2 m m0 m1,if_neg hmc,if_neg hmb]at this
   exact this (qJ _ hm)
 ·exact hc u hu
end
theorem zaj{t:Int}(h : -9223372036854775808<=t)(h':t<=9223372036854775807):wfI t:=by
 show(decide (-9223372036854775808<=t)&&decide (t<=9223372036854775807))=true
 rw[zU,decide_eq_true_eq,decide_eq_true_eq]
 exact⟨h,h'⟩
theorem z02(p:Int)(e:List Term)(L:List vI)(o b s:List Int)(he:∀ t∈e,0<=t.1/\t.1<64)(R:s.length+e.length<=4294967295) :
  (yF p e (Nat.cast (qI e):Int) (0,((L,()),(o,(b,s))))).wp λr=>r=((L,()),o,b,s++e.map (·.1)):=by
 unfold yF
 refine vS (σ:=Int×(List vI×Unit)×List Int×List Int×List Int) (λ(i,q,x,y,z)=>(q=(L,())/\x=o/\y=b/\z=s++(e.take i.toNat).map (·.1))/\0<=i/\i<=e.length) (λ(i,_)=>(e.length-i).toNat) ⟨⟨rfl,rfl,rfl,qz⟩,O,O⟩ ?_
 rintro⟨i,q,x,y,z⟩ ⟨⟨rfl,rfl,rfl,rfl⟩,i0,i1⟩
 unfold yH
 refine zg (λhi => ?_) λhi => ?_
 ·have hi:=uA hi
  have ht:=he _ (xx (d:=zb qj) i0 hi)
  have hts:=mn e i (zb qj) i0 hi
  have hwi:qo (i+1)=i+1:=qv (O) (O)
  refine qt ⟨i0,hi⟩ (zj ⟨rfl,?_,?_⟩ (ze (ze (z8 (z8 (zi ?_))))))
  ·exact zaj (zP (xn) ht.1) (zP (qB ht.2) (xn))
  ·rw[List.length_append,List.length_map,zH]; omega
  ·rw[hwi]
   refine⟨⟨⟨rfl,rfl,rfl,?_⟩,O,O⟩,by simp only; omega⟩
   rw[hts,qD,List.append_assoc]
   rfl
 ·have hi:=gm hi
  rw[zL (O)]
  exact ze (ze (z8 (z8 (zi rfl))))
theorem zb6{n:Nat}{l:List vI}{o b:List Int}(h:Ch n l o b){c:Int}(hc:0<=c/\c<l.length)(ho:nth o c di = -1) :
  (kM c (l,()) o b).wp λr=>r.1=(l,())/\Ch n l r.2.1 r.2.2/\(r.2.1=o/\r.2.2=b\/sq l o<sq l r.2.1):=by
 unfold kM da
 have hn:=h.n64
 refine ze (ze (z8 (z8 (xl (wj (P:=λz=>z.elim (λ(p,x,y,_)=>p=(l,())/\Ch n l x y/\(x=o/\y=b\/sq l o<sq l x)) (λ(p,x,y,_)=>p=(l,())/\Ch n l x y/\(x=o/\y=b\/sq l o<sq l x))) ?_ λz hz => ?_)))))
 case refine_2 =>
  rcases z with⟨p,x,y,s⟩ | ⟨p,x,y,s⟩<;>obtain⟨rfl,hz⟩:=hz<;>exact ze (ze (z8 (z8 (zi ⟨rfl,hz⟩))))
 refine vS (σ:=Int×(List vI×Unit)×List Int×List Int×List Int) (λ(i,p,x,y,s)=>p=(l,())/\Ch n l x y/\(∀ u∈s,0<=u/\u<n)/\s.length+1000*un n s<=1000*n /\
   (i = -1/\sq l o<sq l x\/(0<=i/\i<l.length/\nth x i di = -1)/\(i=c/\x=o/\y=b/\s=[]\/∃ (v h2:Int),v∈vl l i/\TK l x s v/\tr l c<h2/\sq l x=sq l o+tr l i-tr l c/\∀ S,Sg n l y S->h2<=mx S v (tr l i) (tm l i))))
  (λ(_,_,_,_,s)=>un n s) ⟨rfl,h,nofun,?_,.inr ⟨⟨hc.1,hc.2,ho⟩,.inl ⟨rfl,rfl,rfl,rfl⟩⟩⟩ ?_
 ·have:un n []<=n:=E qE (by rw[List.length_range]; exact zT _)
  simp only[List.length_nil]; omega
 rintro⟨i,p,x,y,s⟩ ⟨rfl,hC,hs,R,hI⟩
 unfold yG
 simp only[rM]
 refine zg (λhi => ?_) λhi => ?_
 ·have hi:i ≠ -1:=by simpa using hi
  obtain⟨⟨i0,i1,N⟩,hI⟩:=hI.resolve_left λk=>hi k.1
  obtain⟨S,hS⟩:=hC.sg
  obtain⟨rk,zA,_,hr⟩:=hC.rk
  refine ze (ze (z8 (z8 (xl (wj (M4 hC hS hr i ⟨i0,i1⟩ s) ?_)))))
  rintro⟨j,q⟩ ⟨rfl,hw⟩
  dsimp only
  have hw:Wk1 S s (tr l i) (tm l i) j:=hw
  have mem:∀ t∈tm l i,t.1∈vl l i:=λt ht=>iv.2 ⟨t,ht,rfl⟩
  refine zg (λe => ?_) λe => ?_
  ·have e:j = -1:=by simpa using e
   refine ze (ze (z8 (z8 (zi ⟨rfl,hC,?_⟩))))
   rcases hI with⟨_,h1,M,_⟩ | ⟨v,h2,hv,hk,hM,hp,hm⟩
   ·exact .inl ⟨h1,M⟩
   ·have h1:=hm S hS
    have M:mx S v (tr l i) (tm l i)<=tr l i:=z2j _ _ (qH _) λt ht jZ=>by
     rcases hw with hw | ⟨⟨u,hu,e'⟩,_⟩
     ·exact(hw.2 t ht).resolve_left (hk.free hC hs i0 i1 N hv (mem t ht) jZ)
     ·have:=hC.vr i0 i1 (mem u hu)
      rw[e',e]at this
      exact absurd this.1 (xn)
    exact .inr (by show sq l o<sq l x; omega)
  ·have e:j ≠ -1:=by simpa using e
   obtain⟨⟨t,ht,htj⟩,hjs,wM,hmax⟩:=hw.resolve_left λk=>e k.1
   have hj:j∈vl l i:=htj▸mem t ht
   have Ds:=hC.vr i0 i1 hj
   have hbj:=hC.bc j Ds.1 Ds.2
   have Tf:=hC.ol
   have hbl:=hC.bl
   have hVC:=hC.ac.vc (O) (xx (d:=zb zr) i0 i1)
   have htm:(tm l i).length<=1000:=(hC.ac.2 _ (xx i0 i1)).1.2.2
   have hun:un n (s++vl l i)<un n s:=zl7 (λu hu=>qJ _ hu) (qF _ hj) hjs Ds.1 Ds.2
   refine qt ⟨Ds.1,O⟩ (zj ⟨rfl,O⟩ (xl (wj (P:=λz=>∃ o1,z=((l,()),o1,y,s)/\o1.length=x.length/\(∀ k:Int,0<=k->k<l.length->nth o1 k di=if k=nth y j di then -1 else nth x k di)/\sq l o1=sq l x-if nth y j di = -1 then 0 else 5-tr l (nth y j di)) ?_ ?_)))
   ·refine zg (λe => ?_) λe => ?_
    ·have e:nth y j di ≠ -1:=by simpa using e
     obtain⟨b0,b1,b2⟩:=hbj.resolve_left e
     have hbi:nth y j di<x.length:=O
     have hbx:0+(nth y j di).toNat<x.length:=O
     refine qt ⟨b0,hbi⟩ (zj ⟨rfl,hbx⟩ (zj ⟨by rw[List.length_set],rfl,by rw[List.length_set]⟩ (ze (zj (by rw[List.length_set]) (z8 (zi ⟨_,rfl,by rw[List.length_set],λk k0 k1=>Vh b0 hbi k0,?_⟩))))))
     have:=CY l x (0+(nth y j di).toNat) (-1) (O) (O)
     rw[this,if_pos rfl,if_neg e,if_neg (show ¬ x.getD (0+(nth y j di).toNat) di = -1 by
      have:x.getD (0+(nth y j di).toNat) di=j:=by rw[Nat.zero_add]; exact b2
      rw[this]; omega),Nat.zero_add]
     show sq l x+0-(5-tr l (nth y j di))=_
     omega
    ·have e:nth y j di = -1:=by simpa using e
     exact ze (ze (z8 (z8 (zi ⟨x,rfl,rfl,λk k0 k1=>by rw[e,if_neg (O)],by rw[if_pos e]; omega⟩))))
   ·rintro _ ⟨o1,rfl,hl1,he1,hp1⟩
    dsimp only
    have e2:∀ k:Int,0<=k->k<l.length->nth (o1.set (0+i.toNat) j) k di=if k=i then j else if k=nth y j di then -1 else nth x k di:=λk k0 k1=>by rw[Vh i0 (O) k0,he1 k k0 k1]
    have e3:∀ v:Int,0<=v->nth (y.set (0+j.toNat) i) v di=if v=j then i else nth y v di:=λv v0=>Vh Ds.1 (O) v0
    have hib:i≠nth y j di:=λk=>by
     rcases hbj with k' | ⟨_,_,k'⟩
     ·omega
     ·rw[<- k,N]at k'; omega
    have hp2:sq l (o1.set (0+i.toNat) j)=sq l o1+(5-tr l i):=by
     have:=CY l o1 (0+i.toNat) j (O) (O)
     rw[this,if_neg e,if_pos (show o1.getD (0+i.toNat) di = -1 by
      rw[Nat.zero_add]; exact(he1 i i0 i1).trans (by rw[if_neg hib,N])),Nat.zero_add]
     show _+(5-tr l i)-0=_
     omega
    have hsl:s.length+(tm l i).length<=4294967295:=O
    refine qt ⟨i0,O⟩ (zj ⟨rfl,O⟩ (qt ⟨Ds.1,O⟩ (zj ⟨rfl,O⟩ (qt ⟨i0,i1⟩ (zj ⟨by rw[List.length_set],rfl,by rw[List.length_set]⟩ (zj ⟨by rw[List.length_set],rfl,by rw[List.length_set]⟩ (zj (by rw[List.length_set]) (zj (by rw[List.length_set]) (xl (wj (z02 _ _ l _ _ s ?_ ?_) ?_))))))))))
    ·exact λt ht=>by
      have:=hVC.2.2 t ht
      exact⟨this.1,Int.lt_of_lt_of_le this.2 (O)⟩
    ·exact hsl
    rintro _ rfl
    have hC2:=hC.step i0 i1 N hj (by rw[List.length_set]; omega) e2 (by rw[List.length_set]; omega) e3
    have zrC:(0:Int)<=tr l i:=hVC.1
    have zrD:(4:Int) >= tr l i:=hVC.2.1
    refine ze (ze (z8 (z8 (zi ⟨⟨rfl,hC2,λu hu=>(zG.1 hu).elim (hs u) λk=>hC.vr i0 i1 k,?_,?_⟩,hun⟩))))
    ·show(s++vl l i).length+1000*un n (s++vl l i)<=_
     have:(vl l i).length<=1000:=by unfold vl vs; rw[List.length_map]; exact htm
     rw[List.length_append]; omega
    ·have hM:∃ h2:Int,tr l c<h2/\h2<=S j/\sq l x=sq l o+(if nth o i di = -1/\x=o/\i=c then 0 else tr l i-tr l c):=by
      rcases hI with⟨h1,M,_,_⟩ | ⟨v,h2,hv,hk,hM,hp,hm⟩
      ·exact⟨S j,h1▸wM,qH _,by rw[if_pos ⟨M▸N,M,h1⟩,M]; omega⟩
      ·refine⟨h2,hM,zP (hm S hS) (z2j _ _ (qB wM) λt ht jZ=>(hmax t ht).resolve_left (hk.free hC hs i0 i1 N hv (mem t ht) jZ)),?_⟩
       rw[hp]
       split
       ·rename_i k; rw[k.2.2]; omega
       ·omega
     obtain⟨h2,hM,hMj,hpx⟩:=hM
     have hpx:sq l x=sq l o+tr l i-tr l c:=by
      rw[hpx]
      split
      ·rename_i k; rw[k.2.2]; omega
      ·omega
     by_cases e':nth y j di = -1
     ·rw[if_pos e']at hp1
      refine .inl ⟨e',?_⟩
      have:tr l c<=4:=(h.ac.vc (O) (xx (d:=zb zr) hc.1 hc.2)).2.1
      show sq l o<sq l (o1.set (0+i.toNat) j)
      omega
     ·rw[if_neg e']at hp1
      obtain⟨b0,b1,b2⟩:=hbj.resolve_left e'
      have hjv:j∈vl l (nth y j di):=by
       rcases hC.oc _ b0 b1 with k | k
       ·rw[b2]at k; exact absurd k e
       ·rw[b2]at k; exact k.1
      refine .inr ⟨⟨b0,b1,by show nth _ (nth y j di) di = -1; rw[e2 _ b0 b1,if_neg (λk=>hib k.symm),if_pos rfl]⟩,.inr ⟨j,h2,hjv,TK.step hC hs i0 i1 N hj hjs e2 (hI.imp (λk=>k.2.2.2) λ⟨v,_,hv,hk,_⟩=>⟨v,hv,hk⟩),hM,?_,λS' hS' => ?_⟩⟩
      ·show sq l (o1.set (0+i.toNat) j)=sq l o+tr l (nth y j di)-tr l c
       omega
      ·refine zP hMj (Int.le_of_eq ?_)
       rw[hS j Ds.1 Ds.2,if_neg e']
       refine Ue _ _ λt ht jZ => ?_
       have hm:=iv.2 ⟨t,ht,rfl⟩
       have hv:=hC.vr b0 b1 hm
       exact(z8T hC hr hS e3 hS' _ t.1 hv.1 hv.2 (Nat.lt_succ_self _) (hr j Ds.1 Ds.2 e' t.1 hm jZ)).symm
 ·have hi:i = -1:=by simpa using hi
  refine ze (ze (z8 (z8 (zi ⟨rfl,hC,?_⟩))))
  rcases hI with⟨_,h1⟩ | ⟨⟨h0,_⟩,_⟩
  ·exact .inr h1
  ·omega
open T PL
def Sb(a r:List Int):Prop:=r.length=a.length/\∀ x∈r,x∈a
def ins(l:List vI)(a:List Int):Prop:=∀ x∈a,0<=x/\x<l.length
theorem oo(a:List Int):Sb a a:=⟨rfl,λ_ h=>h⟩
theorem To(a r:List Int)(h:Sb a r):r.length=a.length:=h.1
theorem z9f(a b r:List Int)(h:Sb a b)(k:Sb b r):Sb a r:=⟨k.1.trans h.1,λx N=>h.2 x (k.2 x N)⟩
theorem Uo{a:List Int}{i:Nat}{d:Int}(h:i<a.length):wh a i d∈a:=by
 unfold wh
 rw[B,zJ h]
 exact zO h
theorem ze4(a r:List Int)(i j:Nat)(d e:Int)(h:Sb a r)(hi:i<r.length)(hj:j<r.length):Sb a ((r.set i (wh r j d)).set j (wh r i e)):=by
 refine⟨by simpa using h.1,λx N=>h.2 x ?_⟩
 rcases zI N with k | rfl
 ·rcases zI k with k | rfl
  ·exact k
  ·exact Uo hj
 ·exact Uo hi
theorem X4(l:List vI)(a r:List Int)(h:Sb a r)(k:ins l a):ins l r:=λx N=>k x (h.2 x N)
theorem U6(l:List vI)(a:List Int)(i:Nat)(h:ins l a)(hi:i<a.length):0<=wh a i (zb (.int .i64))/\wh a i (zb (.int .i64))<l.length:=h _ (Uo hi)
theorem YR(x:Int)(h:0<=x)(h':x<=2000000):qo (jk .u64 (wk x) 1)=x / 2:=by
 have e:wk x=x:=by rw[FL]; omega
 rw[e,show jk .u64 x 1=x / 2 from ?_,qv (O) (O)]
 show Int.fdiv x (2 ^ 1)=_
 rw[Int.fdiv_eq_ediv_of_nonneg _ (xn)]
 rfl
theorem ll{p:Prop} (h:p:=by
 intros
 repeat' (with_reducible first
  | refine zi ?_
  | refine zg (λ_ => ?_) (λ_ => ?_)
  | refine z8 ?_
  | refine ze ?_
  | refine uo ?_ ?_
  | refine qt ?_ ?_
  | refine vT ?_ ?_
  | refine vk ?_ ?_
  | refine zj ?_ ?_
  | refine vR (λ_ _ => ?_) (λ_ _ => ?_)
  | refine za ?_ (λ_ _ => ?_)
  | refine vA ?_ (λ_ _ => ?_)
  | refine xl ?_
  | dsimp only)
 all_goals grind [xe,uO,j4,List.length_set,oo,To,z9f,ze4,X4,U6,YR]):p:=h
instance (b c:Int) (l:List vI):Sp (wv b c l) (0<=b/\b<l.length/\0<=c/\c<l.length) (λ_=>True):=⟨λh=>by unfold wv cmp_Compare_int cmp_isNaN_int; exact ll⟩
section
variable (l:List vI)
instance (d:Nat×Nat) (c e:Int) (a:List Int):Sp (va d c e (λz0 z1=>wv z0 z1 l) a) (d=(0,a.length)/\a.length<=1000/\ins l a/\0<=c/\c<=100000/\e<=a.length) (λr=>Sb a r):=⟨λ⟨h0,h1,M,h3,h4,h5⟩=>by
 subst h0
 have L:∀ (i:Int) (x:List Int),Sp (uI c e (λz0 z1=>wv z0 z1 l) i ((0,a.length),(i,x))) (Sb a x/\c<=i/\i<a.length) (λr=>r.1=(0,a.length)/\Sb a r.2):=λi x=>⟨λh=>by
  unfold uI
  refine vS (λ(p,j,b)=>p=(0,a.length)/\c<=j/\j<a.length/\Sb a b) (λ(_,j,_)=>(j-c).toNat) ⟨rfl,h.2.1,h.2.2,h.1⟩ ?_
  rintro⟨p,j,b⟩ ⟨rfl,hj,MR,I⟩
  have R:=I.1
  have hn:∀ k:Nat,k<a.length->0<=wh b k (zb (.int .i64))/\wh b k (zb (.int .i64))<l.length:=λk hk=>U6 l b k (X4 l a b I M) (O)
  unfold uK
  clear h M
  exact ll⟩
 unfold va y8
 refine z8 (z8 (xl (wj (P:=λr=>Sb a r) ?_ λr hr=>z8 (zi hr))))
 refine vS (λ(p,j,b)=>p=(0,a.length)/\c<=j/\j<=200000/\Sb a b) (λ(_,j,_)=>(e-j).toNat) ⟨rfl,by grind [j4],by grind [j4],oo a⟩ ?_
 rintro⟨p,j,b⟩ ⟨rfl,hj,MR,I⟩
 have R:=I.1
 unfold uJ
 exact ll⟩
instance (d:Nat×Nat) (x y n:Int) (g:Int->Int->T Int) (a:List Int):Sp (wZ d x y n g a) (d=(0,a.length)/\a.length<=1000/\0<=x/\0<=y/\0<=n/\x+n<=a.length/\y+n<=a.length) (λr=>Sb a r):=⟨λ⟨h0,h⟩=>by
 subst h0
 unfold wZ gO
 refine z8 (z8 (xl (wj (P:=λr=>Sb a r) ?_ λr hr=>z8 (zi hr))))
 refine vS (λ(p,j,b)=>p=(0,a.length)/\0<=j/\j<=n/\Sb a b) (λ(_,j,_)=>(n-j).toNat) ⟨rfl,O,O,oo a⟩ ?_
 rintro⟨p,j,b⟩ ⟨rfl,hj,MR,I⟩
 have R:=I.1
 unfold jt
 exact ll⟩
instance (d:Nat×Nat) (x m y:Int) (g:Int->Int->T Int) (a:List Int):Sp (jr d x m y g a) (d=(0,a.length)/\a.length<=1000/\0<=x/\x<m/\m<y/\y<=a.length) (λr=>Sb a r):=⟨λ⟨h0,h⟩=>by
 subst h0
 have L:∀ (i j:Int),Sp (kD m g ((0,a.length),(i,(j,a)))) (0<i/\i<=m/\0<j/\j+m<=a.length) (λr=>r.1=(0,a.length)/\Sb a r.2.2/\0<r.2.1/\r.2.1<=m/\r.2.1+m<=a.length):=λi j=>⟨λk=>by
  unfold kD
  refine vS (λ(p,i,j,b)=>p=(0,a.length)/\0<i/\i<=m/\0<j/\j+m<=a.length/\Sb a b) (λ(_,i,j,_)=>(i+j).toNat) ⟨rfl,k.1,k.2.1,k.2.2.1,k.2.2.2,oo a⟩ ?_
  rintro⟨p,i,j,b⟩ ⟨rfl,hi,Ky,hj,MR,I⟩
  clear k
  have R:=I.1
  unfold kE
  exact ll⟩
 unfold jr
 exact ll⟩
end
open T PL
section
variable (l:List vI)
instance (g:(Nat×Nat)->Int->Int->Int->(List vI)->(List Int)->T (List Int)) (f i j:Int) (d:Nat×Nat) (a:List Int):Sp (ua g f l (d,(i,(j,a)))) (d=(0,a.length)/\a.length<=1000/\ins l a/\0<=i/\i<=j/\j<=a.length/\0<=f/\f<a.length) (λr=>r.1=d/\i<=r.2.1/\r.2.1<=j/\r.2.2=a):=⟨λ⟨h0,h1,M,h3,h4,h5⟩=>by
 subst h0
 unfold ua
 refine vS (λ(p,x,y,b)=>p=(0,a.length)/\i<=x/\x<=y/\y<=j/\b=a) (λ(_,x,y,_)=>(y-x).toNat) ⟨rfl,O,h4,O,rfl⟩ ?_
 rintro⟨p,x,y,b⟩ ⟨rfl,N,hy,hj,rfl⟩
 have hm:=YR (x+y) (O) (O)
 have hw:qo (x+y)=x+y:=qv (O) (O)
 have hn:∀ k:Nat,k<b.length->0<=wh b k (zb (.int .i64))/\wh b k (zb (.int .i64))<l.length:=λk hk=>U6 l b k M hk
 unfold uf
 clear M
 dsimp only
 rw[hw,hm]
 exact ll⟩
instance (g:(Nat×Nat)->Int->Int->Int->(List vI)->(List Int)->T (List Int)) (f i j:Int) (d:Nat×Nat) (a:List Int):Sp (uc g f l (d,(i,(j,a)))) (d=(0,a.length)/\a.length<=1000/\ins l a/\0<=i/\i<=j/\j<=a.length/\0<=f/\f<a.length) (λr=>r.1=d/\i<=r.2.1/\r.2.1<=j/\r.2.2=a):=⟨λ⟨h0,h1,M,h3,h4,h5⟩=>by
 subst h0
 unfold uc
 refine vS (λ(p,x,y,b)=>p=(0,a.length)/\i<=x/\x<=y/\y<=j/\b=a) (λ(_,x,y,_)=>(y-x).toNat) ⟨rfl,O,h4,O,rfl⟩ ?_
 rintro⟨p,x,y,b⟩ ⟨rfl,N,hy,hj,rfl⟩
 have hm:=YR (x+y) (O) (O)
 have hw:qo (x+y)=x+y:=qv (O) (O)
 have hn:∀ k:Nat,k<b.length->0<=wh b k (zb (.int .i64))/\wh b k (zb (.int .i64))<l.length:=λk hk=>U6 l b k M hk
 unfold uh
 clear M
 dsimp only
 rw[hw,hm]
 exact ll⟩
instance (g:(Nat×Nat)->Int->Int->Int->(List vI)->(List Int)->T (List Int)) (x1 x2 x3 m n f i j:Int) (d:Nat×Nat) (a:List Int):Sp (ue g x1 x2 x3 l m n f (d,(i,(j,a)))) (d=(0,a.length)/\a.length<=1000/\ins l a/\0<=i/\i<=j/\j<=a.length/\j-1<=f/\f-i<a.length) (λr=>r.1=d/\i<=r.2.1/\r.2.1<=j/\r.2.2=a):=⟨λ⟨h0,h1,M,h3,h4,h5⟩=>by
 subst h0
 unfold ue
 refine vS (λ(p,x,y,b)=>p=(0,a.length)/\i<=x/\x<=y/\y<=j/\b=a) (λ(_,x,y,_)=>(y-x).toNat) ⟨rfl,O,h4,O,rfl⟩ ?_
 rintro⟨p,x,y,b⟩ ⟨rfl,N,hy,hj,rfl⟩
 have hm:=YR (x+y) (O) (O)
 have hw:qo (x+y)=x+y:=qv (O) (O)
 have hn:∀ k:Nat,k<b.length->0<=wh b k (zb (.int .i64))/\wh b k (zb (.int .i64))<l.length:=λk hk=>U6 l b k M hk
 unfold uj
 clear M
 dsimp only
 rw[hw,hm]
 exact ll⟩
instance (g:(Nat×Nat)->Int->Int->Int->(List vI)->(List Int)->T (List Int)) (f i:Int) (d:Nat×Nat) (a:List Int):Sp (ub g f (d,(i,a))) (d=(0,a.length)/\a.length<=1000/\0<=i/\i<=a.length/\0<=f/\f<=a.length) (λr=>Sb a r):=⟨λ⟨h0,h⟩=>by
 subst h0
 unfold ub
 refine vS (λ(p,x,b)=>p=(0,a.length)/\i<=x/\x<=a.length/\Sb a b) (λ(_,x,_)=>(f-x).toNat) ⟨rfl,O,O,oo a⟩ ?_
 rintro⟨p,x,b⟩ ⟨rfl,N,hj,I⟩
 have R:=I.1
 unfold ug
 exact ll⟩
instance (g:(Nat×Nat)->Int->Int->Int->(List vI)->(List Int)->T (List Int)) (f i:Int) (d:Nat×Nat) (a:List Int):Sp (ud g f (d,(i,a))) (d=(0,a.length)/\a.length<=1000/\0<=i/\i<a.length/\0<=f/\f<=a.length) (λr=>Sb a r):=⟨λ⟨h0,h⟩=>by
 subst h0
 unfold ud
 refine vS (λ(p,x,b)=>p=(0,a.length)/\0<=x/\x<a.length/\Sb a b) (λ(_,x,_)=>(x-f).toNat) ⟨rfl,O,O,oo a⟩ ?_
 rintro⟨p,x,b⟩ ⟨rfl,N,hj,I⟩
 have R:=I.1
 unfold ui
 exact ll⟩
end
open T PL
section
variable (l:List vI)
instance (d:Nat×Nat) (x m y:Int) (a:List Int):Sp (vQ d x m y l a) (d=(0,a.length)/\a.length<=1000/\ins l a/\0<=x/\x<m/\m<y/\y<=a.length) (λr=>Sb a r):=⟨λ⟨h0,h1,M,h3⟩=>by
 subst h0
 unfold vQ
 refine sk (x:=((0,a.length),x,m,y,l,a)) (σ:=(Nat×Nat)×Int×Int×Int×List vI×List Int) (ρ:=List Int) (λ(d,x,m,y,q,a)=>(d=(0,a.length)/\q=l)/\a.length<=1000/\ins l a/\0<=x/\x<m/\m<y/\y<=a.length) (λ(_,x,_,y,_)=>(y-x).toNat) (λ(_,_,_,_,_,a) r=>Sb a r) ?_ ?_ ⟨⟨rfl,rfl⟩,h1,M,h3⟩
 ·intro g g' hg z
  unfold vx ua ub uc ud ue uf ug uh ui uj
  exact mono
 ·rename_i N
  clear N h1 M h3 x m y a
  rintro⟨d,x,m,y,q,a⟩ ⟨⟨rfl,rfl⟩,h1,M,h3,h4,h5,h6⟩ g hg
  dsimp only at h1 M h3 h4 h5 h6 hg ⊢
  unfold vx
  have hm:=YR (x+y) (O) (O)
  have hw:qo (x+y)=x+y:=qv (O) (O)
  have H:∀ (d:Nat×Nat) (x' m' y':Int) (b:List Int),Sp (g (d,x',m',y',q,b)) (d=(0,a.length)/\Sb a b/\0<=x'/\x'<m'/\m'<y'/\y'<=a.length/\y'-x'<y-x) (λr=>Sb a r):=λd x' m' y' b=>⟨λ⟨k0,k1,k⟩=>wj (hg (d,x',m',y',q,b) ⟨⟨by rw[k0,k1.1],rfl⟩,by rw[k1.1]; exact h1,X4 q a b k1 M,k.1,k.2.1,k.2.2.1,by rw[k1.1]; exact k.2.2.2.1⟩ (by show(y'-x').toNat<(y-x).toNat; omega)) λr hr=>z9f a b r k1 hr⟩
  clear hg
  dsimp only
  rw[hw,hm]
  clear hm hw
  refine zg (λe => ?_) λe=>zg (λe' => ?_) λe' => ?_
  ·clear H; exact ll
  ·clear H; exact ll
  ·refine zj (xn) (z8 (z8 (za ?_ ?_)))
   ·clear H; cases I:decide ((x+y) / 2<m)<;>grind [j4,oo]
   ·rintro⟨p,i,b⟩ ⟨rfl,hi,hj,I⟩
    have I:b=a:=I
    subst I
    dsimp only at hi hj ⊢
    have Ky:x<=i/\i<=(x+y) / 2+m-(x+y) / 2/\(x+y) / 2+m-i<=y/\(i<m/\m<(x+y) / 2+m-i->True):=by
     clear H
     cases I:decide ((x+y) / 2<m)<;>grind [j4]
    have hr:=oo b
    clear hi hj
    exact ll⟩
instance (d:Nat×Nat) (c:Int) (a:List Int):Sp (js d c l a) (d=(0,a.length)/\a.length<=1000/\ins l a/\c=a.length) (λr=>Sb a r):=⟨λ⟨h0,h1,M,h3⟩=>by
 subst h0 h3
 have L0:∀ x y,Sp (kF (a.length:Int) l 20 ((0,a.length),(x,(y,a)))) (x=0/\y=20) (λr=>r.1=(0,a.length)/\0<=r.2.1/\r.2.1<=2000/\Sb a r.2.2):=λx y=>⟨λ⟨k,k'⟩=>by
  subst k k'
  unfold kF
  refine vS (λ(p,i,j,b)=>p=(0,a.length)/\0<=i/\i<=2000/\0<=j/\j<=2000/\Sb a b) (λ(_,_,j,_)=>(2000-j).toNat) ⟨rfl,xn,xn,xn,xn,oo a⟩ ?_
  rintro⟨p,i,j,b⟩ ⟨rfl,hi,Ky,hj,MR,I⟩
  have R:=I.1
  have Ja:=X4 l a b I M
  unfold kI
  exact ll⟩
 have L2:∀ s x y b,Sp (kH (a.length:Int) l s ((0,a.length),(x,(y,b)))) (x=0/\y=2*s/\0<s/\s<=2000/\Sb a b) (λr=>r.1=(0,a.length)/\0<=r.2.1/\r.2.1<=10000/\Sb a r.2.2):=λs x y b=>⟨λ⟨k,k',k1,k2,k3⟩=>by
  subst k k'
  unfold kH
  refine vS (λ(p,i,j,b)=>p=(0,a.length)/\0<=i/\i<=10000/\j=i+2*s/\j<=10000/\Sb a b) (λ(_,_,j,_)=>(10000-j).toNat) ⟨rfl,xn,xn,O,O,k3⟩ ?_
  rintro⟨p,i,j,b⟩ ⟨rfl,hi,Ky,hj,MR,I⟩
  have R:=I.1
  have Ja:=X4 l a b I M
  unfold kK
  clear k3
  exact ll⟩
 have L1:∀ d x b,Sp (kG (a.length:Int) l (d,(x,b))) (d=(0,a.length)/\x=20/\Sb a b) (λr=>Sb a r):=λd x b=>⟨λ⟨k0,k,k'⟩=>by
  subst k0 k
  unfold kG
  refine vS (λ(p,i,b)=>p=(0,a.length)/\0<i/\i<=4000/\Sb a b) (λ(_,i,_)=>(4000-i).toNat) ⟨rfl,xn,xn,k'⟩ ?_
  rintro⟨p,i,b⟩ ⟨rfl,hi,Ky,I⟩
  have R:=I.1
  have Ja:=λb I=>X4 l a b I M
  unfold kJ
  clear k'
  exact ll⟩
 have Ja:=λb I=>X4 l a b I M
 have R:=λb=>To a b
 unfold js
 exact ll⟩
instance (d:Nat×Nat) (a:List Int):Sp (ux d l a) (d=(0,a.length)/\a.length<=1000/\ins l a) (λr=>Sb a r):=⟨λh=>by
 unfold ux
 obtain⟨rfl,h⟩:=h
 exact ll⟩
end
open T PL
theorem znU:∀ k:Nat,k<65->(mJ (wk 1) (wk k)).wp λr=>r=(0,(k:Int)):=by
 unfold mJ nV
 intro k hk
 refine xl (zj (xn) (zj (xn) (zj (xn) (zj (xn) (zj (xn) (zi (zi ?_)))))))
 revert k
 decide +kernel
theorem zd4(k:Nat)(h:1<=k)(h':k<=64):(yo [-1] k).wp λr=>r=qK k (-1):=by
 unfold yo
 refine wC (qz) (xl (wj (znU k (O)) ?_))
 rintro _ rfl
 have e1:qo (k:Int)=k:=qv (O) (O)
 dsimp only
 rw[e1,zS]
 refine wC (by simp; omega) (zj ⟨O,O,O,O⟩ (zj ⟨rfl,qz⟩ (uo (by simp[yr]; omega) (xl ?_))))
 refine wj (P:=λr=>r=qK k (-1)) ?_ λr hr=>ze (z8 (zi hr))
 unfold ea
 refine vS (σ:=Int×List Int) (λ(b,a)=>a.length=k/\1<=b/\b<=k/\∀ x∈a.take b.toNat,x = -1) (λ(b,_)=>k-b.toNat) ⟨by simp[yr]; omega,by simp[CI]; omega,by simp[CI]; omega,?_⟩ ?_
 ·have:CI k 1=1:=by unfold CI; omega
  simp only[List.length_singleton,this,yr]
  intro x N
  simpa[List.take_append,zL (show[(-1:Int)].length<=k by simpa using h)]using N
 rintro⟨b,a⟩ ⟨R,b0,b1,N⟩
 obtain⟨j,rfl⟩:=X (show 0<=b by omega)
 unfold gv
 dsimp only
 simp only[zS,Int.toNat_zero,Nat.zero_add,Nat.sub_zero,List.drop_zero]at N ⊢
 refine zg (λe => ?_) λe => ?_
 ·have e:=uA e
  have ha:(yr j (a.length-j) a (a.take j)).length=a.length:=by unfold yr; simp; omega
  have hm:CI (a.length-j) (a.take j).length=min (a.length-j) j:=by unfold CI; rw[zH]; omega
  have hw:qo ((j:Int)+(CI (a.length-j) (a.take j).length:Nat))=((j+min (a.length-j) j:Nat):Int):=by rw[hm,qv (O) (O)]; omega
  refine zj ⟨O,O,O⟩ (zj ⟨O,O,O⟩ (z8 (zj ⟨rfl,O⟩ (uo ha.symm (zi ?_)))))
  rw[hw]
  refine⟨⟨ha.trans R,O,O,λx GM => ?_⟩,by simp only[zS]; omega⟩
  rw[zS]at GM
  have:x∈a.take j:=by
   unfold yr at GM
   rw[List.take_append_of_le_length (by simp; omega)]at GM
   rcases zG.1 (zF GM)with k | k
   ·exact k
   ·exact zF k
  exact N x this
 ·have e:=gm e
  refine ze (z8 (zi ?_))
  rw[zL (O)]at N
  exact List.eq_replicate_iff.2 ⟨R,N⟩
instance (t:Term) (v:Int):Sp (bR t v) True (λr=>r=true↔t.1=v):=⟨λ_=>by unfold bR; exact zi (qz)⟩
instance (c:vI) (v:Int):Sp (XJ c v) (c.2.1.length<=1000) (λr=>r=true↔v∈vs c):=⟨λh=>by
 unfold XJ
 refine za ⟨O,λ_ _=>trivial⟩ λr hr=>zi ?_
 rw[iv]
 rcases hr with⟨rfl,k⟩ | ⟨rfl,x,N,k⟩
 ·exact⟨nofun,λ⟨t,ht,e⟩=>(k t ht).2 e⟩
 ·exact⟨λ_=>⟨x,N,k.1 rfl⟩,λ_=>rfl⟩⟩
def Cw(l:List vI):Prop:=l.length<=1000/\∀ c∈l,cw c
instance (l:List vI) (o:List Int) (n:Int):Sp (bq l o n) (Cw l/\o.length<=1000000) (λr=>match r with | .inl (e,f,x,y)=>f=(l,())/\x=o/\(e=true->∃ k:Nat,n=k/\Ch k l o y) | .inr e=>e=false):=⟨λ⟨h,ho⟩=>by
 unfold bq
 refine zg (λ_=>zi rfl) λe => ?_
 simp only[Bool.or_eq_false_iff,decide_eq_false_iff_not,bne_eq_false_iff_eq]at e
 obtain⟨k,rfl⟩:=X (show 0<=n by omega)
 refine za (O) λo' e1 => ?_
 have e1:o'=o:=e1
 subst o'
 refine xl (wj (zd4 k (O) (O)) λ_ e1 => ?_)
 subst e1
 refine z8 (z8 (ze (ze (xl ?_))))
 refine wj (P:=λz=>match z with | .inl (x,y,f)=>f=(l,())/\x=o/\((k:Int)=k/\(∀ c∈l,(cY c k).run=some true)/\y.length=k/\(∀ i:Int,0<=i->i<l.length->nth o i di = -1\/(nth o i di∈vs (nth l i (zb zr))/\nth y (nth o i di) di=i))/\∀ v:Int,0<=v->v<k->nth y v di = -1\/(0<=nth y v di/\nth y v di<l.length/\nth o (nth y v di) di=v)) | .inr (e,_)=>e=false) ?_ ?_
 ·unfold sC
  refine vS (σ:=Int×List Int×List Int×List vI×Unit) (λ(d,x,y,f)=>f=(l,())/\x=o/\0<=d/\d<=l.length/\(∀ i:Int,0<=i->i<d->(cY (nth l i (zb zr)) k).run=some true)/\y.length=k/\(∀ i:Int,0<=i->i<d->nth o i di = -1\/(nth o i di∈vs (nth l i (zb zr))/\nth y (nth o i di) di=i))/\∀ v:Int,0<=v->v<k->nth y v di = -1\/(0<=nth y v di/\nth y v di<d/\nth o (nth y v di) di=v))
   (λ(d,_)=>(l.length-d).toNat) ⟨rfl,rfl,O,O,O,qz,O,λv v0 v1=>.inl ?_⟩ ?_
  ·unfold nth
   rw[B,List.getElem?_replicate,if_pos (O)]; rfl
  rintro⟨d,x,y,f⟩ ⟨rfl,rfl,d0,d1,hA,hy,hoc,hbc⟩
  unfold fO
  simp only[rM]
  refine zg (λJ => ?_) λJ => ?_
  ·have J:=uA J
   have hw:qo (d+1)=d+1:=qv (O) (by have:=h.1; omega)
   have hcw:=h.2 _ (xx (d:=zb zr) d0 J)
   refine qt ⟨d0,J⟩ (xl ?_)
   obtain⟨r,hr,hV⟩:=T.eY.1 (Sp.sp (t:=cY (nth l d (zb zr)) k) ⟨O,hcw.1,hcw.2.1,by have:=hcw.2.2; omega⟩)
   refine kY hr (zg (λe=>z8 (z8 (ze (ze (zi rfl))))) λe => ?_)
   have hrt:r=true:=by simpa using e
   subst hrt
   have hV:=hV rfl
   have hA':∀ i:Int,0<=i->i<d+1->(cY (nth l i (zb zr)) k).run=some true:=λi i0 i1=>by
    by_cases e:i=d
    ·rw[e]; exact hr
    ·exact hA i i0 (O)
   refine qt ⟨d0,O⟩ (zg (λe => ?_) λe => ?_)
   ·have e:nth x d di = -1:=by simpa using e
    refine z8 (z8 (ze (ze (zi ?_))))
    rw[hw]
    refine⟨⟨rfl,rfl,O,O,hA',hy,λi i0 i1 => ?_,λv v0 v1=>(hbc v v0 v1).imp_right λ⟨a,b,c⟩=>⟨a,Int.lt_trans b (Int.lt_succ d),c⟩⟩,by simp only; omega⟩
    by_cases e':i=d
    ·rw[e']; exact .inl e
    ·exact hoc i i0 (O)
   ·have e:nth x d di ≠ -1:=by simpa using e
    refine xl (wj (P:=λz=>z.2=(x,y,(l,()),nth l d (zb zr))/\(z.1=false->nth x d di∈vs (nth l d (zb zr))/\nth y (nth x d di) di = -1)) ?_ ?_)
    ·refine za (by exact hcw.2.2) λb I=>zg (λe=>z8 (z8 (ze (ze (zi ⟨rfl,nofun⟩))))) λe => ?_
     have I:=I.1 (by simpa using e)
     obtain⟨t,ht,et⟩:=iv.1 I
     have hv:=hV.2.2 t ht
     rw[et]at hv
     have hv1:nth x d di<y.length:=by rw[hy]; exact hv.2
     have hv0:0<=nth x d di:=hv.1
     have EM:0+(nth x d di).toNat<y.length:=O
     exact qt ⟨hv0,hv1⟩ (zj ⟨rfl,EM⟩ (z8 (z8 (ze (ze (zi ⟨rfl,λq=>⟨I,by simpa using q⟩⟩))))))
    ·rintro⟨b,_⟩ ⟨rfl,I⟩
     refine zg (λ_=>z8 (z8 (ze (ze (zi rfl))))) λe' => ?_
     obtain⟨I,Ke⟩:=I e'
     obtain⟨t,ht,et⟩:=iv.1 I
     have hv:=hV.2.2 t ht
     rw[et]at hv
     have hv0:0<=nth x d di:=hv.1
     have hv1:nth x d di<y.length:=by rw[hy]; exact hv.2
     have EM:0+(nth x d di).toNat<y.length:=O
     refine qt ⟨hv0,hv1⟩ (zj ⟨rfl,EM⟩ (z8 (zj (by rw[List.length_set]) (ze (zj ⟨by rw[List.length_set],rfl,by rw[List.length_set]⟩ (zi ?_))))))
     rw[hw]
     have vX:∀ v:Int,0<=v->nth (y.set (0+(nth x d di).toNat) d) v di=if v=nth x d di then d else nth y v di:=λv v0=>Vh hv0 hv1 v0
     refine⟨⟨rfl,rfl,O,O,hA',by rw[List.length_set]; exact hy,λi i0 i1 => ?_,λv v0 v1 => ?_⟩,by simp only; omega⟩
     ·by_cases e':i=d
      ·refine .inr ?_
       rw[e']
       exact⟨I,(vX _ hv0).trans (if_pos rfl)⟩
      ·refine(hoc i i0 (O)).imp_right λ⟨a,c⟩=>⟨a,?_⟩
       obtain⟨t',ht',et'⟩:=iv.1 a
       have hV':=Gz (Sp.sp (t:=cY (nth l i (zb zr)) k) (by
        have hcw:=h.2 _ (xx (l:=l) (i:=i) (d:=zb zr) i0 (O))
        exact⟨O,hcw.1,hcw.2.1,by have:=hcw.2.2; omega⟩)) (hA i i0 (O)) rfl
       have h0:=(hV'.2.2 t' ht').1
       rw[et']at h0
       refine(vX _ h0).trans ?_
       rw[if_neg]
       ·exact c
       ·intro q; rw[q,Ke]at c; omega
     ·have:=vX v v0
      by_cases e':v=nth x d di
      ·rw[if_pos e']at this
       refine .inr ?_
       rw[this]; exact⟨d0,O,e'.symm⟩
      ·rw[if_neg e']at this
       rw[this]
       exact(hbc v v0 v1).imp_right λ⟨a,b,c⟩=>⟨a,O,c⟩
  ·have J:=gm J
   have Ez:d=l.length:=O
   subst Ez
   refine z8 (z8 (ze (ze (zi ⟨rfl,rfl,trivial,λc hc => ?_,hy,hoc,hbc⟩))))
   obtain⟨i,hi,rfl⟩:=zX hc
   have:=hA i (O) (O)
   simpa[nth,hi]using this
 ·rintro(⟨x,y,f⟩ | ⟨b,_⟩) hz
  ·obtain⟨rfl,rfl,_,hA,hy,hoc,hbc⟩:=hz
   have hAc:Ac k l:=⟨h.1,λc hc=>⟨h.2 c hc,hA c hc⟩⟩
   refine za ⟨O,O,hAc⟩ λr hr=>ze (ze (z8 (z8 (zi ⟨rfl,rfl,λe=>⟨k,rfl,hAc,O,O,hr e,O,hy,hoc,hbc⟩⟩))))
  ·exact zi hz⟩
open T PL
instance (a b:List Int):Sp (y7 a b) (a.length<=1000000) (λr=>r=false->a≠b):=⟨λh=>by
 unfold y7 iZ
 refine zg (λe=>zi λ_ k=>by rw[k]at e; simp at e) λe => ?_
 have e:(a.length:Int)=b.length:=by simpa using e
 refine xl (wj (P:=λz=>z.elim (λ_=>True) λr=>r=false->a≠b) ?_ λz hz => ?_)
 ·refine vS (σ:=Int) (λi=>0<=i/\i<=a.length) (λi=>(a.length-i).toNat) ⟨O,O⟩ λi hi => ?_
  unfold cm
  refine zg (λJ => ?_) λJ=>zi trivial
  have J:=uA J
  have hw:qo (i+1)=i+1:=qv (O) (O)
  refine qt ⟨hi.1,J⟩ (qt ⟨hi.1,O⟩ (zg (λk=>zi λ_ q => ?_) λk=>zi ?_))
  ·rw[q]at k; simp at k
  ·rw[hw]; exact⟨⟨O,O⟩,O⟩
 ·rcases z with z | z
  ·exact zi nofun
  ·exact zi hz⟩
theorem cJ{α:Type}(a:List α):zQ 0 (zK (0+a.length) a)=a:=qz
instance (l:List vI) (o:List Int) (n:Int):Sp (ow l o n) (Cw l/\o.length<=1000000) (λr=>(r.2=false->r.1=o)/\(r.2=true->∃ (k:Nat) (y:List Int),n=k/\Ch k l r.1 y)):=⟨λ⟨h,ho⟩=>by
 unfold ow
 have zez:=h.1
 refine za ⟨h,ho⟩ λz hz => ?_
 rcases z with⟨e,f,x,y⟩ | e
 ·obtain⟨rfl,rfl,hC0⟩:=hz
  refine zg (λk=>za (O) λr hr=>zi ⟨λ_=>hr,nofun⟩) λk => ?_
  obtain⟨n,rfl,hC⟩:=hC0 (by simpa using k)
  clear hC0
  refine zj ⟨rfl,rfl,rfl⟩ (ze (ze (z8 (z8 (zj rfl (xl (wj (P:=λz=>∃ a,z=((l,()),x,y,a)/\ins l a/\a.length<=1000) ?_ ?_)))))))
  ·unfold Qj
   refine vS (σ:=Int×(List vI×Unit)×List Int×List Int×List Int) (λ(d,p,b,c,a)=>(p=(l,())/\b=x/\c=y)/\0<=d/\d<=l.length/\a.length=d.toNat/\ins l a) (λ(d,_)=>(l.length-d).toNat) ⟨⟨rfl,rfl,rfl⟩,O,O,rfl,nofun⟩ ?_
   rintro⟨d,p,b,c,a⟩ ⟨⟨rfl,rfl,rfl⟩,d0,d1,R,hi⟩
   unfold nL
   refine zg (λJ => ?_) λJ => ?_
   ·have J:=uA J
    have hw:qo (d+1)=d+1:=qv (O) (O)
    refine vT (O) (zj ⟨qz,rfl,qz⟩ (ze (ze (z8 (z8 (zj (qz) (zi ?_)))))))
    rw[hw]
    refine⟨⟨⟨rfl,rfl,rfl⟩,O,O,?_,λu hu => ?_⟩,by simp only; omega⟩
    ·show(a++[d]).length=(d+1).toNat
     rw[List.length_append,List.length_singleton]; omega
    ·rcases zG.1 hu with hu | hu
     ·exact hi u hu
     ·rw[zE.1 hu]; exact⟨d0,J⟩
   ·exact ze (ze (ze (z8 (z8 (z8 (zi ⟨a,rfl,hi,O⟩))))))
  ·rintro _ ⟨a,rfl,hi,Kd⟩
   refine z8 (z8 (za ⟨rfl,Kd,hi⟩ λg hg => ?_))
   have T9:=hg.1
   refine zj ⟨T9.symm,rfl,T9.symm⟩ (ze (ze (z8 (z8 (z8 (xl (wj (P:=λz=>∃ o b:List Int,z=((l,()),o,b,g)/\Ch n l o b) ?_ ?_)))))))
   ·have hgi:=X4 l a g hg hi
    have hB:=z2M l
    have hV:∀ c∈l,0<=c.1/\c.1<=4:=λc hc=>by have:=hC.ac.vc (by have:=hC.n64; omega) hc; exact⟨this.1,this.2.1⟩
    unfold Qk
    refine vS (σ:=(List Int×Bool)×(List vI×Unit)×List Int×List Int×List Int) (λ(_,p,o,b,a)=>p=(l,())/\a=g/\Ch n l o b) (λ(q,_,o,_,_)=>2*(5*l.length-sq l o).toNat+if q.2=true/\q.1=o then 0 else 1) ⟨rfl,rfl,hC⟩ ?_
    rintro⟨q,p,o,b,a⟩ ⟨rfl,rfl,hC'⟩
    unfold nM
    have Tf:=hC'.ol
    refine xl (wj (P:=λz=>∃ w:Bool,z=(w,(l,()),o,b,a)/\(w=true->¬ (q.2=true/\q.1=o))) ?_ ?_)
    ·refine zg (λk=>ze (ze (ze (z8 (z8 (z8 (zi ⟨true,rfl,λ_ k' => ?_⟩))))))) λk=>z8 (xl ?_)
     ·rw[k'.1]at k; cases k
     ·rw[cJ]
      by_cases hq:q.1.length=o.length
      ·exact vA (O) λw hw=>ze (ze (ze (z8 (z8 (z8 (zi ⟨!w,rfl,λe k'=>hw (by simpa using e) k'.2⟩))))))
      ·unfold y7
       exact uz (by rw[bne_iff_ne]; omega) (zi (ze (ze (ze (z8 (z8 (z8 (zi ⟨true,rfl,λ_ k'=>hq (by rw[k'.2])⟩))))))))
    ·rintro _ ⟨w,rfl,hw⟩
     dsimp only
     refine zg (λk => ?_) λk=>ze (ze (z8 (z8 (z8 (zi ⟨o,b,rfl,hC'⟩)))))
     rw[cJ]
     refine z8 (zj (O) (ze (ze (ze (ze (z8 (z8 (z8 (xl (wj (P:=λz=>∃ o' b':List Int,z=((l,()),o',b',a)/\Ch n l o' b'/\(o'=o/\b'=b\/sq l o<sq l o')) ?_ ?_))))))))))
     ·unfold Ql
      refine vS (σ:=Int×(List vI×Unit)×List Int×List Int×List Int) (λ(d,p,o',b',a')=>(p=(l,())/\a'=a)/\0<=d/\d<=a.length/\Ch n l o' b'/\(o'=o/\b'=b\/sq l o<sq l o')) (λ(d,_)=>(a.length-d).toNat) ⟨⟨rfl,rfl⟩,O,O,hC',.inl ⟨rfl,rfl⟩⟩ ?_
      rintro⟨d,p,o',b',a'⟩ ⟨⟨rfl,rfl⟩,d0,d1,hC2,hp⟩
      unfold nN
      simp only[rM]
      refine zg (λJ => ?_) λJ=>ze (ze (ze (z8 (z8 (z8 (zi ⟨o',b',rfl,hC2,hp⟩))))))
      have J:=uA J
      have hw:qo (d+1)=d+1:=qv (O) (O)
      have he:=hgi _ (xx (d:=di) d0 J)
      have he0:0<=nth a' d di:=he.1
      have he1:nth a' d di<l.length:=he.2
      have zsq:=hC2.ol
      have he2:nth a' d di<o'.length:=O
      have he3:0+(nth a' d di).toNat<o'.length:=O
      refine qt ⟨d0,J⟩ (zj ⟨rfl,O⟩ (qt ⟨he0,he2⟩ (zj ⟨rfl,he3⟩ (zg (λe => ?_) λe => ?_))))
      ·have e:nth o' (nth a' d di) di = -1:=by simpa using e
       refine ze (ze (z8 (z8 (xl (wj (zb6 hC2 ⟨he0,he1⟩ e) ?_)))))
       rintro⟨p,o2,b2⟩ ⟨rfl,hC3,hp3⟩
       refine ze (ze (ze (ze (z8 (z8 (z8 (zi ?_)))))))
       rw[hw]
       refine⟨⟨⟨rfl,rfl⟩,O,O,hC3,?_⟩,by simp only; omega⟩
       have hp3:o2=o'/\b2=b'\/sq l o'<sq l o2:=hp3
       show o2=o/\b2=b\/sq l o<sq l o2
       rcases hp3 with⟨rfl,rfl⟩ | k
       ·exact hp
       ·rcases hp with⟨rfl,rfl⟩ | k'
        ·exact .inr k
        ·exact .inr (Int.lt_trans k' k)
      ·refine ze (ze (ze (ze (z8 (z8 (z8 (zi ?_)))))))
       rw[hw]
       exact⟨⟨⟨rfl,rfl⟩,O,O,hC2,hp⟩,by simp only; omega⟩
     ·rintro _ ⟨o',b',rfl,hC2,hp⟩
      refine ze (ze (ze (z8 (z8 (z8 (zi ⟨⟨rfl,rfl,hC2⟩,?_⟩))))))
      have h1:=hB o hV
      have M:=hB o' hV
      show 2*(5*l.length-sq l o').toNat+(if true=true/\o=o' then 0 else 1)<2*(5*l.length-sq l o).toNat+(if q.2=true/\q.1=o then 0 else 1)
      rw[if_neg (hw k)]
      rcases hp with⟨rfl,_⟩ | k'
      ·rw[if_pos ⟨rfl,rfl⟩]; omega
      ·split<;>omega
   ·rintro _ ⟨o,b,rfl,hC'⟩
    dsimp only
    rw[cJ]
    exact z8 (zi ⟨nofun,λ_=>⟨n,b,rfl,hC'⟩⟩)
 ·have hz:e=false:=hz
  subst hz
  exact uz rfl (za (O) λr hr=>zi ⟨λ_=>hr,nofun⟩)⟩
instance (l:List vI) (o:List Int) (n:Int):Sp (tM l o n) (Cw l/\o.length<=1000000) (λr=>r=true->∃ (k:Nat) (y:List Int),n=k/\Ch k l o y):=⟨λh=>by
 unfold tM
 refine za h λz hz => ?_
 rcases z with⟨e,f,x,y⟩ | e
 ·exact zi λk=>by obtain⟨m,h1,M⟩:=hz.2.2 k; exact⟨m,y,h1,M⟩
 ·exact zi λk=>by rw[hz]at k; cases k⟩
instance (l:List vI) (o:List Int) (n i:Int):Sp (mz l o n i) (Cw l/\o.length<=1000000) (λ_=>True):=⟨λh=>by
 unfold mz
 refine za h λz hz => ?_
 rcases z with⟨e,f,x,y⟩ | e
 ·obtain⟨rfl,rfl,hC0⟩:=hz
  refine zg (λk => ?_) λ_=>zi trivial
  obtain⟨n,rfl,hC⟩:=hC0 k
  clear hC0
  refine zg (λi0=>zg (λi1 => ?_) λ_=>zi trivial) λ_=>zi trivial
  have i0:=uA i0
  have i1:=uA i1
  have Tf:=hC.ol
  refine qt ⟨i0,O⟩ (zj ⟨rfl,O⟩ (zg (λ_=>ze (ze (z8 (z8 (xl ?_))))) λ_=>zi trivial))
  refine wj (P:=λ_=>True) ?_ λ_ _=>zi trivial
  unfold gU cM
  refine qt ⟨i0,i1⟩ (qt ⟨i0,i1⟩ (ze (ze (z8 (z8 (xl ?_))))))
  refine wj (P:=λ_=>True) ?_ λ_ _=>ze (ze (z8 (z8 (zi trivial))))
  obtain⟨S,hS⟩:=hC.sg
  obtain⟨rk,zA,_,hr⟩:=hC.rk
  have hvr:=λt ht=>hC.vr i0 i1 (v:=t) ht
  have hlen:(nth l i (zb zr)).2.1.length<=1000:=(hC.ac.2 _ (xx i0 i1)).1.2.2
  dsimp only
  generalize nth l i (zb zr)=c at *
  refine vS (σ:=Int×Int×Int×(List vI×Unit)×List Int×List Int) (λ(_,_,d,p,a,b)=>(p=(l,())/\a=x/\b=y)/\0<=d/\d<=c.2.1.length) (λ(_,_,d,_)=>(c.2.1.length-d).toNat) ⟨⟨rfl,rfl,rfl⟩,O,O⟩ ?_
  rintro⟨p,q,d,w,a,b⟩ ⟨⟨rfl,rfl,rfl⟩,d0,d1⟩
  unfold yd
  refine zg (λJ => ?_) λ_=>ze (ze (z8 (z8 (zi trivial))))
  have J:=uA J
  have hw:qo (d+1)=d+1:=qv (O) (O)
  have htr:=hvr _ (iv.2 ⟨_,xx (d:=zb qj) d0 J,rfl⟩)
  have hn:=hC.n64
  refine qt ⟨d0,J⟩ (ze (ze (z8 (z8 (xl (wj (BF hC hS hr _ htr) ?_))))))
  rintro _ rfl
  refine zj (zaj (zP (xn) htr.1) (zP (qB htr.2) (O))) (zg (λ_=>ze (ze (z8 (z8 (zi ?_))))) λ_=>ze (ze (z8 (z8 (zi ?_)))))
  all_goals
   rw[hw]
   exact⟨⟨⟨rfl,rfl,rfl⟩,O,O⟩,by simp only; omega⟩
 ·have hz:e=false:=hz
  subst hz
  exact wC rfl (zi trivial)⟩
open T PL
theorem zaS{n:Int}{l:List vI}(h:Ac n l)(h0:0<=n)(hn:n<=64){c:vI}(hc:c∈l):(c.2.1.length:Int)<=n:=by
 obtain⟨h1,M⟩:=h.2 c hc
 have hV:=h.vc hn hc
 have R:=h1.2.2
 have hA:∀ x∈c.2.1,rg x.2.1/\rl x.2.1<=1000000:=λx N=>⟨h1.1.1 x N,by have:=Xy N; have:=h1.2.1; unfold cb at this; omega⟩
 have hK:rg c.2.2.1/\rl c.2.2.1<=1000000:=⟨h1.1.2,by have:=DX c; have:=h1.2.1; omega⟩
 have L:∀ s,Sp (tG n c.2.1 (c.2.1.length:Int) s) (s=(0,0)) (λr=>match r with | .inl _=>(c.2.1.length:Int)<=n | .inr b=>b=false):=λs=>⟨λhs=>by
  unfold tG
  refine eP c.2.1 (zb qj) (λ(_,i)=>i) (λx=>(rg x.2.1/\rl x.2.1<=1000000)/\0<=x.1/\x.1<n) (λ_=>True) (λ(g,i)=>i<=g/\g<=n) (λx N=>⟨hA x N,hV.2.2 x N⟩) (by subst hs; exact⟨rfl,qH _,h0⟩) (λ⟨g,i⟩ x hj N he i0 hi => ?_) λ⟨g,i⟩ hj he _ => ?_
  ·dsimp only at *
   unfold p9
   dsimp only
   rw[he]
   clear he hA hK hV
   exact gog
  ·dsimp only at *
   unfold p9
   clear h1 hA hK hV
   exact gog⟩
 refine Gz (t:=cY c n) (Q:=λr=>r=true->(c.2.1.length:Int)<=n) ?_ M rfl
 unfold cY
 clear hA hV h1 M h
 exact gog
instance (b:List Int) (c:Int):Sp (jm b c) (b.length<=1000000) (λ_=>True):=⟨λh=>by
 have L:Sp (ym b c (b.length:Int) 0) True (λ_=>True):=⟨λ_=>by
  unfold ym
  refine vS (σ:=Int) (λi=>0<=i/\i<=b.length) (λi=>(b.length-i).toNat) ⟨O,O⟩ λi hi => ?_
  unfold yn
  exact ll⟩
 unfold jm uH
 exact ll⟩
instance (b:Term) (c:List Int) (d:Int) (a:List Int):Sp (cQ b c d a) (0<=d/\d<c.length/\a.length<=1000000) (λr=>r.2=a):=⟨λh=>by
 unfold cQ
 rw[cJ]
 exact ll⟩
instance (d:List Term) (e:List Int×Int×Unit) (c:List Int):Sp (wI d e c) (0<=e.2.1/\e.2.1<e.1.length/\c.length<=1000000/\d.length<=1000000) (λr=>r.2=c):=⟨λh=>by
 obtain⟨e1,e2,e3⟩:=e
 have L:Sp (vo d (d.length:Int) ((e1,e2,()),0,c)) True (λr=>match r with | .inl a=>a=c | .inr z=>z.2=c):=⟨λ_=>by
  unfold vo
  refine vS (σ:=(List Int×Int×Unit)×Int×List Int) (λ(p,i,b)=>(p=(e1,e2,())/\b=c)/\0<=i/\i<=d.length) (λ(_,i,_)=>(d.length-i).toNat) ⟨⟨rfl,rfl⟩,O,O⟩ ?_
  rintro⟨p,i,b⟩ ⟨⟨rfl,rfl⟩,i0,i1⟩
  unfold vp
  exact ll⟩
 unfold wI vM
 exact ll⟩
instance (b:Int) (d:List vI) (f a:List Int):Sp (iT b d f a) ((0<=b/\b<a.length/\b<d.length/\b<f.length/\a.length<=1000000)/\∀ c∈d,c.2.1.length<=1000) (λr=>r.2=a/\(r.1=true->nth a b di ≠ -1)):=⟨λ⟨h,hc⟩=>by
 have hc:=hc _ (xx (d:=zb zr) h.1 h.2.2.1)
 unfold iT
 simp only[rM]
 exact ll⟩
def cn(e:List Int):Nat:=e.countP λx=>x != -1
theorem zb1{e:List Int}{c:Int}(h0:0<=c)(h1:c<e.length)(h:nth e c di ≠ -1):cn (e.set (0+c.toNat) (-1))+1=cn e:=by
 have hc:0+c.toNat<e.length:=O
 have e1:e[0+c.toNat]=nth e c di:=by unfold nth; rw[B]; simp[show c.toNat<e.length by omega]
 have hm:0<e.countP λx=>x != -1:=List.countP_pos_iff.2 ⟨e[0+c.toNat],zO hc,by rw[e1]; simpa using h⟩
 unfold cn
 rw[List.countP_set hc,e1,if_pos (by simpa using h),if_neg (xn)]
 omega
instance (l:List vI) (o:List Int) (n:Int):Sp (Wd l o n) (Cw l/\o.length<=1000000) (λr=>(∀ i:Int,i∈r->(0<=i/\i<l.length)/\0<=nth o i di/\nth o i di<n)/\r.length<=1000):=⟨λ⟨h,ho⟩=>by
 unfold Wd
 refine za ⟨h,ho⟩ λz hz=>zg (λ_=>zi ⟨nofun,xn⟩) λk => ?_
 obtain⟨n,y,rfl,hC⟩:=hz (by simpa using k)
 refine za (O) λo' e1 => ?_
 have e1:o'=o:=e1
 subst o'
 have Tf:=hC.ol
 have R:=h.1
 refine zj ⟨rfl,rfl,rfl⟩ (ze (z8 (zj rfl (xl (wj (P:=λz=>(∀ i:Int,i∈z.2->(0<=i/\i<l.length)/\0<=nth o i di/\nth o i di<n)/\z.2.length<=1000) ?_ λ⟨g,b⟩ hz=>z8 (zi (by rw[cJ]; exact hz)))))))
 unfold UE
 refine vS (σ:=(List vI×List Int×Unit)×Int×List Int×List Int) (λ(p,c,e,a)=>p=(l,o,())/\0<=c/\c<=l.length/\e.length=l.length/\(∀ i:Int,0<=i->i<l.length->nth e i di = -1\/nth e i di=nth o i di)/\a.length+cn e<=1000/\∀ i:Int,i∈a->(0<=i/\i<l.length)/\0<=nth o i di/\nth o i di<n) (λ(_,c,e,_)=>cn e*2000+(l.length-c).toNat)
  ⟨rfl,O,O,Tf,λi _ _=>.inr rfl,?_,nofun⟩ ?_
 ·have:cn o<=o.length:=qE
  simp only[List.length_nil]; omega
 rintro⟨p,c,e,a⟩ ⟨rfl,c0,c1,he,hi,ha,hA⟩
 unfold Q7
 refine zg (λJ => ?_) λJ=>ze (ze (z8 (z8 (zi ⟨hA,by show a.length<=1000; omega⟩))))
 have J:=uA J
 have hw:qo (c+1)=c+1:=qv (O) (O)
 have hco:c<o.length:=O
 refine ze (z8 (za ⟨⟨c0,O,J,hco,O⟩,λc hc=>(h.2 c hc).2.2⟩ λ⟨f,b⟩ hf => ?_))
 have I:b=e:=hf.1
 subst I
 refine zg (λk=>ze (ze (z8 (z8 (zi ?_))))) λk => ?_
 ·rw[hw]
  exact⟨⟨rfl,O,O,he,hi,ha,hA⟩,by simp only; omega⟩
 ·have jZ:nth b c di ≠ -1:=hf.2 (by simpa using k)
  have hcn:=zb1 c0 (O) jZ
  have vX:∀ v:Int,0<=v->nth (b.set (0+c.toNat) (-1)) v di=if v=c then -1 else nth b v di:=λv v0=>Vh c0 (O) v0
  refine qt ⟨c0,O⟩ (zj ⟨rfl,O⟩ (vT (O) (zj ⟨qz,rfl,qz⟩ (uo (qz) (zj (qz) (zi ?_))))))
  refine⟨⟨rfl,xn,O,by rw[List.length_set]; exact he,λi i0 i1 => ?_,?_,λi Ky => ?_⟩,?_⟩
  ·rw[vX i i0]
   split
   ·exact .inl rfl
   ·exact hi i i0 i1
  ·show(a++[c]).length+cn (b.set (0+c.toNat) (-1))<=1000
   rw[List.length_append,List.length_singleton]; omega
  ·rcases zG.1 Ky with q | q
   ·exact hA i q
   ·rw[zE.1 q]
    have ho:=(hi c c0 J).resolve_left jZ
    have hm:=((hC.oc c c0 J).resolve_left (λq=>jZ (ho.trans q))).1
    exact⟨⟨c0,J⟩,hC.vr c0 J hm⟩
  ·show cn (b.set (0+c.toNat) (-1))*2000+(l.length-(0:Int)).toNat<cn b*2000+(l.length-c).toNat
   omega⟩
open T PL
instance (priority:=high) divS (a b:Lf.Rat):Sp (sT a b) (rg a/\rg b/\rl a+rl b<=10000000) (λr=>rg r.1/\rl r.1<=rl a+rl b+4/\(nm r.1\/rl r.1<=2)):=⟨λh=>by unfold sT; exact gor⟩
theorem Pr(l:List Lf.Rat)(i:Nat)(h:rs l)(hi:i<l.length):rg (wh l i (zb zl))/\rl (wh l i (zb zl))<=1700:=by
 have e:wh l i (zb zl)∈l:=by unfold wh; rw[B,zJ hi]; exact zO hi
 exact h.2 _ e
theorem D5(l:List Lf.Rat)(i:Nat)(x:Lf.Rat)(h:rs l)(N:rg x)(R:rl x<=1700):rs (l.set i x):=⟨by simpa using h.1,λy hy=>by
 rcases zI hy with k | rfl
 ·exact h.2 y k
 ·exact⟨N,R⟩⟩
theorem z30(l:List Lf.Rat)(x:Lf.Rat)(h:rs l)(N:rg x)(R:rl x<=1700)(hn:l.length<1000000000):rs (l++[x]):=⟨by simp; omega,yT h.2 ⟨N,R⟩⟩
theorem LI:rs []:=⟨qz,nofun⟩
theorem csw{l:List vI}(h:VM l):Cw l:=⟨h.1,λc hc=>⟨(h.2 c hc).1,by have:=(h.2 c hc).2.1; omega,by have:=(h.2 c hc).2.2; omega⟩⟩
theorem za6(x:Lf.Rat)(h:nm x\/rl x<=2)(k:rl (norm x)<=16):rl x<=1700:=by
 rcases h with h | h
 ·rw[<- show norm x=x from h]; omega
 ·omega
theorem gov{p:Prop} (h:p:=by
 intros
 repeat' (with_reducible first
  | refine zi ?_
  | refine zg (λ_ => ?_) (λ_ => ?_)
  | refine z8 ?_
  | refine ze ?_
  | refine uo ?_ ?_
  | refine qt ?_ ?_
  | refine vT ?_ ?_
  | refine vk ?_ ?_
  | refine zj ?_ ?_
  | refine vR (λ_ _ => ?_) (λ_ _ => ?_)
  | refine za ?_ (λ_ _ => ?_)
  | refine vA ?_ (λ_ _ => ?_)
  | refine xl ?_
  | dsimp only)
 all_goals grind [xe,uO,zw,j4,yI,List.length_set,List.length_append,List.length_singleton,Wp,Pr,D5,z30,LI,za6]):p:=h
instance (c:vI) (v:List Lf.Rat):Sp (BX c v) (ck c/\rs v) (λr=>rg r/\rl r<=12000000):=⟨λ⟨⟨h1,M,h3⟩,hv⟩=>by
 have hA:∀ x∈c.2.1,rg x.2.1/\rl x.2.1<=20700:=λx N=>⟨h1.1 x N,by have:=Xy N; unfold cb at M; omega⟩
 have hK:rg c.2.2.1/\rl c.2.2.1<=20700:=⟨h1.2,by have:=DX c; omega⟩
 have L:∀ z b,Sp (UW v c.2.1 (c.2.1.length:Int) (0,z,b)) (rg b/\rl b<=20700) (λr=>rg r.2/\rl r.2<=12000000):=λz b=>⟨λI=>by
  unfold UW
  refine eP c.2.1 (zb qj) (λ(i,_)=>i) (λx=>rg x.2.1/\rl x.2.1<=20700) (λ_=>True) (λ(i,_,d)=>0<=i/\i<=512/\rg d/\(rl d:Int)<=20700+22410*i) hA ⟨rfl,xn,xn,I.1,by have:=I.2; show(rl b:Int)<=20700+22410*0; omega⟩ (λ⟨i,y,d⟩ x hj N he i0 hi => ?_) λ⟨i,y,d⟩ hj he _ => ?_
  ·dsimp only at *
   unfold XF
   dsimp only
   rw[he]
   clear he hA I hK h1 M
   exact gov
  ·dsimp only at *
   unfold XF
   clear hA I hK h1 M
   exact gov⟩
 unfold BX
 clear hA h1 M h3
 exact gov⟩
instance (c:vI) (v:List Lf.Rat):Sp (sH c v) (ck c/\rs v) (λ_=>True):=⟨λh=>by unfold sH; exact gov⟩
instance (c:vI) (j:Int) (v:List Lf.Rat):Sp (sX c j v) ((ck c/\rs v)/\c.2.1.length<=64/\∀ t∈c.2.1,0<=t.1/\t.1<v.length) (λr=>r.2=v/\rg r.1/\rl r.1<=3000000/\(nm r.1\/rl r.1<=2)):=⟨λ⟨⟨⟨h1,M,h3⟩,hv⟩,R,ht⟩=>by
 have hA:∀ x∈c.2.1,(rg x.2.1/\rl x.2.1<=20700)/\0<=x.1/\x.1<v.length:=λx N=>⟨⟨h1.1 x N,by have:=Xy N; unfold cb at M; omega⟩,ht x N⟩
 have hK:rg c.2.2.1/\rl c.2.2.1<=20700:=⟨h1.2,by have:=DX c; omega⟩
 have L:∀ z b f,Sp (rT j c.2.1 (c.2.1.length:Int) (0,v,z,b,f)) (rg b/\rl b<=20700/\rg f/\rl f<=20700) (λr=>r.1=v/\rg r.2.2.1/\rl r.2.2.1<=1600000/\rg r.2.2.2/\rl r.2.2.2<=20700):=λz b f=>⟨λI=>by
  unfold rT
  refine eP c.2.1 (zb qj) (λ(i,_)=>i) (λx=>(rg x.2.1/\rl x.2.1<=20700)/\0<=x.1/\x.1<v.length) (λ_=>True) (λ(i,a,_,d,e)=>a=v/\0<=i/\i<=64/\rg d/\(rl d:Int)<=20700+22410*i/\rg e/\rl e<=20700) hA ⟨rfl,rfl,xn,xn,I.1,by have:=I.2.1; show(rl b:Int)<=20700+22410*0; omega,I.2.2⟩ (λ⟨i,a,y,d,e⟩ x hj N he i0 hi => ?_) λ⟨i,a,y,d,e⟩ hj he _ => ?_
  ·dsimp only at *
   unfold iV
   dsimp only
   rw[he]
   clear he hA I hK h1 M ht
   exact gov
  ·dsimp only at *
   unfold iV
   clear hA I hK h1 M ht
   exact gov⟩
 unfold sX
 clear hA h1 M h3 ht
 exact gov⟩
instance (l:List vI) (o:List Int) (v:List Lf.Rat):Sp (KM l o v) (VM l/\o.length<=1000000/\rs v) (λr=>(r.2.2=0->rs r.1/\r.1.length=v.length) /\ -1<=r.2.1/\r.2.1<l.length):=⟨λ⟨h,ho,hv⟩=>by
 unfold KM
 refine za ⟨csw h,ho⟩ λz hz=>zg (λ_=>zi ⟨nofun,by show(-1:Int) <= -1/\(-1:Int)<l.length; omega⟩) λk => ?_
 obtain⟨n,y,hn,hC⟩:=hz (by simpa using k)
 have hn:v.length=n:=O
 subst hn
 have Tf:=hC.ol
 have zsk:=hC.n64
 refine zj ⟨rfl,rfl,rfl⟩ (zj rfl (xl (wj (P:=λd=>rs d/\d.length=v.length) ?_ λd J => ?_)))
 ·unfold Gi
  refine vS (σ:=Int×List Lf.Rat) (λ(i,a)=>0<=i/\i<=v.length/\rs a/\(a.length:Int)=i) (λ(i,_)=>(v.length-i).toNat) ⟨xn,O,LI,rfl⟩ ?_
  rintro⟨i,a⟩ ⟨i0,i1,ha,R⟩
  have N:=λq=>D4 hv i i0 q
  have hv1:=hv.1
  unfold Vp
  clear hC h hz
  exact gov
 ·refine za ⟨csw h,ho⟩ λf hf=>ze (z8 (xl (wj (P:=λz:List Lf.Rat⊕(Int×Int×List Lf.Rat)=>z.elim (λa=>rs a/\a.length=v.length) λz=>((0:Int)<=z.1/\z.1<(l.length:Int))/\z.2.1=(8:Int)) ?_ λz hz => ?_)))
  ·unfold Gj
   refine eP (σ:=Int×List Lf.Rat) f di (λ(i,_)=>i) (λi:Int=>(0<=i/\i<l.length)/\0<=nth o i di/\nth o i di<v.length) (λ_=>True) (λ(_,a)=>rs a/\a.length=v.length) hf.1 ⟨rfl,J⟩ (λ⟨i,a⟩ x hj N he i0 hi => ?_) λ⟨i,a⟩ hj he _ => ?_
   ·dsimp only at he i0 hi
    obtain⟨⟨x0,x1⟩,y0,y1⟩:=N
    obtain⟨ha,Kd⟩:=hj
    have hcm:=xx (l:=l) (d:=zb zr) x0 x1
    have hV:=(hC.ac.vc (O) hcm).2.2
    have hlen:=zaS hC.ac (O) (O) hcm
    have hck:=h.2 _ hcm
    have GK:x<o.length:=O
    have hw:qo (i+1)=i+1:=qv (O) (by have:=hf.2; omega)
    unfold Q8
    dsimp only
    rw[show nth f i (zb (.int .i64))=x from he]
    refine uz (by simpa using hi) (qt ⟨i0,hi⟩ (qt ⟨x0,x1⟩ (qt ⟨x0,GK⟩ (ze (z8 (za ⟨⟨hck,ha⟩,O,λt ht=>by rw[Kd]; exact hV t ht⟩ λ⟨g,b⟩ hg => ?_))))))
    obtain⟨I,T9,hg2,hg3⟩:=hg
    have I:b=a:=I
    subst I
    refine za ⟨T9,by have:rl g<=3000000:=hg2; show rl g<=_; omega⟩ λk hk=>zg (λ_=>z8 (zi ⟨⟨x0,x1⟩,rfl⟩)) λe => ?_
    have hrl:=za6 g hg3 (hk (by simpa using e))
    have hy1:nth o x di<b.length:=by rw[Kd]; exact y1
    refine qt ⟨x0,GK⟩ (qt ⟨y0,hy1⟩ (zj ⟨rfl,by rw[Nat.zero_add]; show(nth o x di).toNat<b.length; omega⟩ (zj ⟨by rw[List.length_set],rfl,by rw[List.length_set]⟩ (zj (by rw[List.length_set]) (zi ⟨hw,⟨D5 _ _ _ ha T9 hrl,by show(List.set _ _ _).length=_; rw[List.length_set]; exact Kd⟩,trivial⟩)))))
   ·unfold Q8
    refine wC (by simpa using Int.le_of_eq he.symm) (ze (z8 (zi hj)))
  ·rcases z with a | ⟨h1,i1,j1⟩
   ·refine z8 (zi ?_)
    rw[cJ]
    exact⟨λ_=>hz,by show(-1:Int) <= -1/\(-1:Int)<l.length; omega⟩
   ·obtain⟨⟨k0,k1⟩,k2⟩:=hz
    have k2:i1=8:=k2
    subst k2
    exact zi ⟨nofun,by have:0<=h1:=k0; show -1<=h1; omega,k1⟩⟩
open T PL
instance (c:vI):Sp (Q9 c) (ck c) (λ_=>True):=⟨λh=>by
 have h1:=h.1.2
 have M:=h.2.1
 have h3:=DX c
 unfold Q9
 exact gov⟩
instance (c:vI) (n:Int):Sp (yS c n) (n<=1000000/\ck c) (λr=>r=false->(cY c n).run=some true):=⟨λh=>by
 unfold yS
 obtain⟨r,hr,_⟩:=T.eY.1 (Sp.sp (t:=cY c n) ⟨h.1,h.2.1,by have:=h.2.2.1; omega,by have:=h.2.2.2; omega⟩)
 exact xl (kY hr (zi λe=>by rw[hr]; simpa using e))⟩
def ou(l:List Int):Prop:=∀ x∈l,-1<=x/\x<1000000000000000000
instance (l:List vI) (s:j9):Sp (te l s) (VM l/\s.1.length<=1000000/\rs s.2.1) (λr=>(r.2.2=0->rs r.1.2.1/\r.1.2.1.length=s.2.1.length/\r.1.1.length=l.length/\ou r.1.1) /\ -1<=r.2.1/\r.2.1<l.length):=⟨λ⟨h,ho,hv⟩=>by
 unfold te
 have z61:(-1:Int)<l.length:=O
 refine xl (wj (P:=λz=>(z.1=false->Ac s.2.1.length l/\s.2.1.length<=64)/\z.2.2=(s.2.1.length:Int)) ?_ ?_)
 ·refine zg (λ_=>zi ⟨nofun,rfl⟩) λ_=>zg (λ_=>zi ⟨nofun,rfl⟩) λh64=>zg (λ_=>zi ⟨nofun,rfl⟩) λ_=>zg (λ_=>zi ⟨nofun,rfl⟩) λ_ => ?_
  have h64:=gm h64
  refine za ⟨by have:=h.1; omega,λx N=>⟨O,h.2 x N⟩⟩ λr hr=>zi ⟨λe=>⟨⟨h.1,λc hc=>⟨(csw h).2 c hc,?_⟩⟩,O⟩,rfl⟩
  have e:r=false:=e
  rcases hr with⟨_,k⟩ | ⟨k,_⟩
  ·exact k c hc rfl
  ·rw[e]at k; cases k
 ·rintro⟨j,k,d⟩ ⟨hA,J⟩
  have J:d=s.2.1.length:=J
  subst J
  refine zg (λ_=>zi ⟨nofun,by show(-1:Int) <= -1; decide,z61⟩) λe => ?_
  obtain⟨hA,h64⟩:=hA e
  refine za ⟨O,O,hA⟩ λf hf=>zg (λe=>zi ⟨nofun,hf.1,hf.2.1⟩) λ_ => ?_
  refine za ⟨csw h,ho⟩ λ⟨o,b⟩ hS=>zg (λ_=>zi ⟨nofun,by show(-1:Int) <= -1; decide,z61⟩) λe => ?_
  obtain⟨m,y,hm,hC⟩:=hS.2 (by simpa using e)
  have Tf:o.length=l.length:=hC.ol
  have zez:=h.1
  have hou:ou o:=λx N=>by
   obtain⟨j,j0,j1,rfl⟩:=KD (d:=di) N
   rcases hC.oc j j0 (O)with q | ⟨q,_⟩
   ·have q:nth o j di = -1:=q
    omega
   ·have q2:0<=nth o j di/\nth o j di<(m:Int):=hC.vr j0 (O) q
    have:=hC.n64
    omega
  refine xl (wj (P:=λz:(j9×Int)⊕(Int×Int×j9×Int)=>z.elim (λ_=>True) λz=>((-1:Int)<=z.1/\z.1<(l.length:Int))/\z.2.1=(10:Int)) ?_ ?_)
  ·unfold Xu
   refine vS (σ:=Int×j9×Int) (λ(i,_)=>0<=i/\i<=l.length) (λ(i,_)=>(l.length-i).toNat) ⟨xn,O⟩ ?_
   rintro⟨i,c,d⟩ ⟨i0,i1⟩
   have N:0<=i->i<l.length->ck (nth l i (zb zr)):=λp q=>h.2 _ (xx p q)
   unfold se
   clear hC hS hA hf h hv
   exact gov
  ·rintro(⟨r,t⟩ | ⟨i,q,t,u⟩) hz
   ·refine za ⟨h,by show o.length<=_; omega,hv⟩ λ⟨m,n,g⟩ hR=>zg (λe=>zi ⟨λq => ?_,hR.2⟩) λe=>zi ⟨λ_=>⟨(hR.1 ?_).1,(hR.1 ?_).2,Tf,hou⟩,by show(-1:Int) <= -1; decide,z61⟩
    ·have q:g=0:=q
     rw[q]at e; cases e
    ·simpa using e
    ·simpa using e
   ·obtain⟨⟨k0,k1⟩,k2⟩:=hz
    have k2:q=10:=k2
    subst k2
    exact zi ⟨nofun,k0,k1⟩⟩
def Sys(a:uk):Prop:=VM a.2.1/\a.2.2.1.length=a.2.1.length/\a.2.2.2.1.length=a.2.1.length/\io (a.1.2.2.2.2.1.length+a.1.2.2.2.1.length) a.2.2.2.1
instance (b:Int) (a:uk):Sp (cN b a) (Sys a /\ -1<=b/\b<a.2.1.length/\a.1.2.2.2.2.1.length<=10000/\a.1.2.2.2.1.length<=10000) (λr=>r.2=a/\r.1.length<=1):=⟨λ⟨⟨h1,M,h3,h4⟩,h5,h6,h7⟩=>by
 have N:0<=b->0<=nth a.2.2.2.1 b (zb (.int .i64))/\nth a.2.2.2.1 b (zb (.int .i64))<a.1.2.2.2.2.1.length+a.1.2.2.2.1.length:=λp=>h4 _ (xx p (O))
 unfold cN
 clear h1 h4
 exact gov⟩
instance (g:List Lf.Rat) (a:uk):Sp (jS g a) (Sys a/\rs g/\a.1.2.2.2.2.1.length<=10000/\a.1.2.2.2.1.length<=10000) (λr=>(r.2.2.1=0->rs r.1/\r.1.length=g.length/\Sys r.2.2.2/\r.2.2.2.1=a.1/\r.2.2.2.2.1=a.2.1/\ou r.2.2.2.2.2.1)/\r.2.1.length<=1):=⟨λ⟨h,hg,hF⟩=>by
 unfold jS
 refine za ⟨h.1,by have:=h.2.1; have:=h.1.1; show a.2.2.1.length<=_; omega,hg⟩ λ⟨b,d,c⟩ hP=>zg (λe=>za ⟨h,hP.2.1,hP.2.2,hF⟩ λz hz=>zi ⟨λq => ?_,hz.2⟩) λe=>zi ⟨λ_ => ?_,V _⟩
 ·have q:c=0:=q
  rw[q]at e; cases e
 ·obtain⟨p1,p2,p3,p4⟩:=hP.1 (by simpa using e)
  exact⟨p1,p2,⟨h.1,p3,h.2.2⟩,rfl,rfl,p4⟩⟩
open T PL
def Pn(p:qk):Prop:=rg p.2.2.1/\rl p.2.2.1<=1700
def Ps(l:List qk):Prop:=l.length<=1000000000/\∀ p∈l,Pn p
def Dw(d:qe):Prop:=rs d.1/\d.2.1.length<=1000000000/\rs d.2.2.1/\d.2.2.2.1.length<=1000000000/\Ps d.2.2.2.2.1/\d.2.2.2.2.2.1.length<=1000000000/\ou d.2.2.2.1
theorem I8(l:List qk)(i:Int)(h:Ps l)(h0:0<=i)(h1:i<l.length):rg (nth l i (zb zm)).2.2.1/\rl (nth l i (zb zm)).2.2.1<=1700:=h.2 _ (xx h0 h1)
theorem Mv(l:List qk)(i:Nat)(h:Ps l)(hi:i<l.length):rg (wh l i (zb zm)).2.2.1/\rl (wh l i (zb zm)).2.2.1<=1700:=by
 have e:wh l i (zb zm)∈l:=by unfold wh; rw[B,zJ hi]; exact zO hi
 exact h.2 _ e
theorem BW(l:List qk)(i:Nat)(x:qk)(h:Ps l)(N:rg x.2.2.1)(R:rl x.2.2.1<=1700):Ps (l.set i x):=⟨by simpa using h.1,λy hy=>by
 rcases zI hy with k | rfl
 ·exact h.2 y k
 ·exact⟨N,R⟩⟩
theorem zaJ(l:List qk)(x:qk)(h:Ps l)(N:rg x.2.2.1)(R:rl x.2.2.1<=1700)(hn:l.length<1000000000):Ps (l++[x]):=⟨by simp; omega,yT h.2 ⟨N,R⟩⟩
theorem zaK:Ps []:=⟨qz,nofun⟩
theorem CE(n:Int)(l:List Int)(i:Nat)(h:io n l)(hi:i<l.length):0<=wh l i (zb (.int .i64))/\wh l i (zb (.int .i64))<n:=h _ (Uo hi)
theorem z9U(n m:Int)(l:List Int)(h:io n l)(k:n<=m):io m l:=λi hi=>⟨(h i hi).1,Int.lt_of_lt_of_le (h i hi).2 k⟩
theorem zeh(t:Term)(k:Lf.Rat)(h1:rg t.2.1)(M:rl t.2.1<=20700)(h3:rg k)(h4:rl k<=20700):ck (1,[t],k,()):=by
 refine⟨⟨λx N=>by rw[zE.1 N]; exact h1,h3⟩,?_,by show 1<=512; decide⟩
 show max (max (rl t.2.1) 0) (rl k)<=20700
 omega
theorem god{p:Prop} (h:p:=by
 intros
 repeat' (with_reducible first
  | refine zi ?_
  | refine zg (λ_ => ?_) (λ_ => ?_)
  | refine z8 ?_
  | refine ze ?_
  | refine uo ?_ ?_
  | refine qt ?_ ?_
  | refine vT ?_ ?_
  | refine vk ?_ ?_
  | refine zj ?_ ?_
  | refine vR (λ_ _ => ?_) (λ_ _ => ?_)
  | refine za ?_ (λ_ _ => ?_)
  | refine vA ?_ (λ_ _ => ?_)
  | refine xl ?_
  | dsimp only)
 all_goals grind [xe,uO,zw,j4,yI,List.length_set,List.length_append,List.length_singleton,List.length_nil,Wp,Pr,D5,z30,LI,I8,Mv,BW,zaJ,zaK,CE,zeh,Cb,CD]):p:=h
instance (c:Int) (d:Lf.Rat):Sp (Cd c d) (rg d/\rl d<=1700) (λr=>ck r):=⟨λh=>by
 unfold Cd
 exact god⟩
instance (q:Int) (i:Lf.Rat) (f:Int) (a:Form) (b:List vI) (c d:List Int):Sp (kN q i f a b c d) ((rg i/\rl i<=1700)/\(VM b/\b.length<=900)/\c.length<=10000/\d.length<=10000/\0<=q/\q<a.2.2.2.1.length/\a.2.2.2.1.length<=10000/\a.2.2.2.2.1.length<=10000/\io (a.2.2.2.2.1.length+a.2.2.2.1.length) d)
  (λr=>(VM r.2.1/\r.2.1.length=b.length+1)/\r.2.2.1.length=c.length+1/\(r.2.2.2.length=d.length+1/\io (a.2.2.2.2.1.length+a.2.2.2.1.length) r.2.2.2)/\r.1=a):=⟨λh=>by
 obtain⟨hi,⟨I,hb9⟩,hc,J,q0,q1,hf,hr,hio⟩:=h
 have hw:qo ((a.2.2.2.2.1.length:Int)+q)=a.2.2.2.2.1.length+q:=qv (O) (O)
 unfold kN
 refine za hi λe he=>vT (O) (vT (O) (vT (O) (zj ⟨qz,rfl,qz⟩ (zj ⟨qz,rfl,qz⟩ (zj ⟨qz,rfl,qz⟩ (zj (qz) (zj (qz) (zj (qz) (zi ?_)))))))))
 rw[hw]
 exact⟨⟨Cb b e I he (O),qz⟩,qz,⟨qz,CD _ _ _ hio (O) (O)⟩,rfl⟩⟩
instance (f:Form) (d:qe):Sp (QS f d) True (λr=>r=true->d.2.2.1.length=f.2.2.2.1.length/\d.2.2.2.1.length=f.2.2.2.2.1.length/\d.2.2.2.2.1.length=f.2.2.2.1.length/\d.2.2.2.2.2.1.length=f.2.2.2.1.length):=⟨λ_=>by
 unfold QS
 refine zi λh => ?_
 simp only[zU,beq_iff_eq]at h
 omega⟩
def Bt(f:Form)(b:List vI)(c d:List Int):Prop:=VM b/\c.length=b.length/\d.length=b.length/\io (f.2.2.2.2.1.length+f.2.2.2.1.length) d
instance (f:Form) (d:qe):Sp (db f d) (FW 8200 f/\Dw d) (λr=>match r with | .inl (k,a,b,c,e)=>k=0/\a=f/\Bt f b c e/\FV f/\f.2.2.2.1.length<=64/\f.2.2.2.2.1.length<=64/\d.2.2.1.length=f.2.2.2.1.length/\d.2.2.2.1.length=f.2.2.2.2.1.length/\d.2.2.2.2.1.length=f.2.2.2.1.length/\d.2.2.2.2.2.1.length=f.2.2.2.1.length/\d.1.length=f.2.1.length/\d.2.1.length=f.1.length/\b.length<=128 | .inr (n,k)=>k≠0/\n.length<=1):=⟨λ⟨hF,hD⟩=>by
 unfold db
 refine za trivial λo ho=>zg (λ_=>zi ⟨xn,V _⟩) λe => ?_
 have ho:=ho (by simpa using e)
 refine za ⟨hF,hD.1,hD.2.1⟩ λ⟨p,n,k,g,b⟩ hz=>zg (λe=>zi ⟨by simpa using(qG.1 e).1,zT _⟩) λ_=>zg (λe=>zi ⟨by simpa using e,V _⟩) λe => ?_
 obtain⟨hg,I,hgb,zbD,hz⟩:=hz
 obtain⟨hV,h1,M,h3,h4⟩:=hz (by simpa using e)
 dsimp only at hg I hgb zbD
 refine ze (z8 (z8 (ze (zj ⟨rfl,rfl,rfl⟩ (ze (zj rfl (xl (wj (P:=λz=>∃ c:List Int,z=(g,b,(),f,c)/\c.length=b.length) ?_ ?_))))))))
 ·unfold QQ
  refine vS (σ:=Int×List vI×List Int×Unit×Form×List Int) (λ(i,x,y,u,w,c)=>(x=g/\y=b/\w=f)/\0<=i/\i<=b.length/\(c.length:Int)=i) (λ(i,_)=>(b.length-i).toNat) ⟨⟨rfl,rfl,rfl⟩,xn,O,rfl⟩ ?_
  rintro⟨i,x,y,u,w,c⟩ ⟨⟨rfl,rfl,rfl⟩,i0,i1,hc⟩
  unfold pU
  refine zg (λJ => ?_) λJ => ?_
  ·have J:=uA J
   have hn:=CE _ _ (0+i.toNat) I (O)
   have hw:qo (i+1)=i+1:=qv (O) (O)
   have Yl:wh y (0+i.toNat) (zb (.int .i64))<d.2.2.2.1.length:=by have:=hn.2; have:=ho.2.1; omega
   refine qt ⟨i0,J⟩ (zj ⟨rfl,O⟩ (qt ⟨hn.1,Yl⟩ (vT (O) (ze (z8 (z8 (ze (zj ⟨qz,rfl,qz⟩ (ze (zj (qz) (zi ?_)))))))))))
   rw[hw]
   exact⟨⟨⟨rfl,rfl,rfl⟩,O,O,by show((c++[_]).length:Int)=i+1; rw[List.length_append,List.length_singleton]; omega⟩,by simp only; omega⟩
  ·have J:=gm J
   exact z8 (z8 (ze (ze (ze (z8 (zi ⟨c,rfl,O⟩))))))
 ·rintro _ ⟨c,rfl,hc⟩
  refine z8 (z8 (ze (ze (ze (z8 (xl (wj (P:=λz=>∃ (x:List vI) (y q:List Int) (w:Form),z=(x,y,(),w,q)/\Bt f x q y/\w=f/\x.length<=128) ?_ ?_)))))))
  ·unfold QR
   have hPn:=hD.2.2.2.2.1
   have zmS:d.2.2.2.2.1.length<=64:=by have:=ho.2.2.1; omega
   have hP3:=ho.2.2.1
   generalize d.2.2.2.2.1=ps at hPn zmS hP3 ⊢
   refine vS (σ:=Int×List vI×List Int×Unit×Form×List Int) (λ(i,x,y,u,w,c)=>w=f/\0<=i/\i<=ps.length/\Bt f x c y/\(x.length:Int)<=64+i) (λ(i,_)=>(ps.length-i).toNat) ⟨rfl,xn,O,⟨hg,O,O,z9U _ _ _ I (O)⟩,O⟩ ?_
   rintro⟨i,x,y,u,w,c⟩ ⟨rfl,i0,i1,hB,N⟩
   obtain⟨b1,b2,b3,b4⟩:=hB
   unfold pV
   refine zg (λJ => ?_) λJ => ?_
   ·have J:=uA J
    have hp:=I8 ps i hPn i0 J
    have hw:qo (i+1)=i+1:=qv (O) (O)
    refine qt ⟨i0,J⟩ (zg (λ_=>z8 (z8 (ze (ze (ze (z8 (zi ?_))))))) λ_ => ?_)
    ·rw[hw]
     exact⟨⟨rfl,O,O,⟨b1,b2,b3,b4⟩,O⟩,by simp only; omega⟩
    ·have q1:i<w.2.2.2.1.length:=O
     have q2:w.2.2.2.1.length<=10000:=O
     have q3:w.2.2.2.2.1.length<=10000:=O
     refine ze (ze (ze (z8 (z8 (z8 (za ⟨hp,⟨b1,O⟩,O,O,i0,q1,q2,q3,b4⟩ λ⟨e,p,q,r⟩ hr=>z8 (z8 (ze (ze (ze (z8 (zi ?_))))))))))))
     obtain⟨⟨r1,r2⟩,r3,⟨r4,r5⟩,r6⟩:=hr
     dsimp only at r1 r2 r3 r4 r5 r6
     rw[hw]
     exact⟨⟨r6,O,O,⟨r1,O,O,r5⟩,O⟩,by simp only; omega⟩
   ·exact z8 (z8 (ze (ze (ze (z8 (zi ⟨x,y,c,w,rfl,⟨b1,b2,b3,b4⟩,rfl,O⟩))))))
  ·rintro _ ⟨x,y,q,w,rfl,hB,rfl,N⟩
   exact ze (ze (ze (z8 (z8 (z8 (zi ⟨rfl,rfl,hB,hV,h1,M,ho.1,ho.2.1,ho.2.2.1,ho.2.2.2,h3,h4,N⟩))))))⟩
open T PL
theorem goz{p:Prop} (h:p:=by
 intros
 repeat' (with_reducible first
  | refine zi ?_
  | refine zg (λ_ => ?_) (λ_ => ?_)
  | refine z8 ?_
  | refine ze ?_
  | refine uo ?_ ?_
  | refine qt ?_ ?_
  | refine vT ?_ ?_
  | refine vk ?_ ?_
  | refine zj ?_ ?_
  | refine vR (λ_ _ => ?_) (λ_ _ => ?_)
  | refine za ?_ (λ_ _ => ?_)
  | refine vA ?_ (λ_ _ => ?_)
  | refine xl ?_
  | dsimp only)
 all_goals grind [xe,uO,zw,j4,List.length_set]):p:=h
instance (a:qe):Sp (lP a) (Dw a) (λr=>r=((),a.1,a.2.1,a.2.2.1,a.2.2.2.1,a.2.2.2.2.1,a.2.2.2.2.2.1)):=⟨λ⟨h1,M,h3,h4,h5,h6⟩=>by
 have k1:=h1.1
 have k3:=h3.1
 have k5:=h5.1
 unfold lP
 exact goz⟩
theorem Lv{l:List Int}(h:ou l)(i:Nat){x:Int}(N : -1<=x/\x<1000000000000000000):ou (l.set i x):=λy hy=>by
 rcases zI hy with k | rfl
 ·exact h y k
 ·exact N
def Tt(w:qe)(a:List Int)(d:List qk):Prop:=ou a/\a.length=w.2.2.2.1.length/\Ps d/\d.length=w.2.2.2.2.1.length
instance (w:qe) (x:List Lf.Rat) (y:uk):Sp (gD w x y) (Dw w/\(Sys y/\ou y.2.2.1)/\w.2.2.2.1.length=y.1.2.2.2.2.1.length/\w.2.2.2.2.1.length=y.1.2.2.2.1.length)
  (λr=>∃ (a:List Int) (d:List qk),r=((x,()),y,w.1,w.2.1,a,d,w.2.2.2.2.2.1)/\Tt w a d):=⟨λ⟨hD,⟨hS,hou⟩,hR,hF⟩=>by
 have J:=hD.2.2.2.2.1
 have ho:=hD.2.2.2.1
 have hd2:=J.1
 obtain⟨s1,s2,s3,s4⟩:=hS
 have s5:=s1.1
 unfold gD
 refine za hD λ_ e => ?_
 subst e
 refine ze (ze (ze (ze (ze (z8 (z8 (z8 (z8 (z8 (z8 (xl (wj (P:=λz=>∃ (k:qe) (a:List Int),z=(y,(x,()),k,w.1,w.2.1,w.2.2.1,a,w.2.2.2.2.1,w.2.2.2.2.2.1)/\ou a/\a.length=w.2.2.2.1.length) ?_ ?_))))))))))))
 ·unfold mQ
  refine vS (λz=>∃ (i:Int) (k:qe) (a:List Int),z=(i,y,(x,()),k,w.1,w.2.1,w.2.2.1,a,w.2.2.2.2.1,w.2.2.2.2.2.1)/\(ou a/\a.length=w.2.2.2.1.length)/\0<=i/\i<=w.2.2.2.1.length) (λz=>(w.2.2.2.1.length-z.1).toNat) ⟨0,_,_,rfl,⟨hD.2.2.2.2.2.2,rfl⟩,xn,O⟩ ?_
  rintro _ ⟨i,k,a,rfl,⟨hoa,ha⟩,i0,i1⟩
  unfold dc
  refine zg (λhi => ?_) λhi => ?_
  ·have hi:=uA hi
   have hw:qo (i+1)=i+1:=qv (O) (O)
   refine qt ⟨i0,O⟩ (zj ⟨rfl,O⟩ (ze (ze (zj ⟨by rw[List.length_set],rfl,by rw[List.length_set]⟩ (ze (ze (z8 (z8 (z8 (zj (by rw[List.length_set]) (z8 (z8 (zi ?_)))))))))))))
   rw[hw]
   exact⟨⟨i+1,k,_,rfl,⟨Lv hoa _ (xn),by rw[List.length_set]; exact ha⟩,O,O⟩,by simp only; omega⟩
  ·exact ze (ze (ze (ze (ze (z8 (z8 (z8 (z8 (z8 (z8 (zi ⟨k,a,rfl,hoa,ha⟩)))))))))))
 ·rintro _ ⟨k,a,rfl,hoa,ha⟩
  refine ze (ze (ze (ze (ze (z8 (z8 (z8 (z8 (z8 (z8 (xl (wj (P:=λz=>∃ (k:qe) (a:List Int) (d:List qk),z=(y,(x,()),k,w.1,w.2.1,w.2.2.1,a,d,w.2.2.2.2.2.1)/\Tt w a d) ?_ ?_))))))))))))
  ·unfold mR
   refine vS (λz=>∃ (i:Int) (k:qe) (a:List Int) (d:List qk),z=(i,y,(x,()),k,w.1,w.2.1,w.2.2.1,a,d,w.2.2.2.2.2.1)/\Tt w a d/\0<=i/\i<=y.2.2.1.length) (λz=>(y.2.2.1.length-z.1).toNat) ⟨0,_,_,_,rfl,⟨hoa,ha,J,rfl⟩,xn,O⟩ ?_
   rintro _ ⟨i,k,a,d,rfl,⟨hoa,ha,J,Ez⟩,i0,i1⟩
   unfold de
   refine zg (λhi => ?_) λhi => ?_
   ·have hi:=uA hi
    have hw:qo (i+1)=i+1:=qv (O) (O)
    have hio:i<y.2.2.2.1.length:=O
    have hh:=s4 _ (xx (d:=di) i0 hio)
    have h0:(0:Int)<=nth y.2.2.2.1 i di:=hh.1
    have h1:(y.1.2.2.2.2.1.length+y.1.2.2.2.1.length:Int) > nth y.2.2.2.1 i di:=hh.2
    refine qt ⟨i0,hi⟩ (qt ⟨i0,hio⟩ (zg (λe => ?_) λe => ?_))
    ·have e:(a.length:Int) > nth y.2.2.2.1 i di:=uA e
     have e':0+(nth y.2.2.2.1 i di).toNat<a.length:=O
     refine qt ⟨h0,e⟩ (zj ⟨rfl,e'⟩ (ze (ze (zj ⟨by rw[List.length_set],rfl,by rw[List.length_set]⟩ (ze (ze (z8 (z8 (z8 (zj (by rw[List.length_set]) (z8 (z8 (zi ?_)))))))))))))
     rw[hw]
     exact⟨⟨i+1,k,_,d,rfl,⟨Lv hoa _ (hou _ (xx (d:=di) i0 (O))),by rw[List.length_set]; exact ha,J,Ez⟩,O,O⟩,by simp only; omega⟩
    ·have e:¬ (a.length:Int) > nth y.2.2.2.1 i di:=gm e
     have hwm:qo (nth y.2.2.2.1 i di-a.length)=nth y.2.2.2.1 i di-a.length:=qv (O) (O)
     have e1:(0:Int)<=qo (nth y.2.2.2.1 i di-a.length)/\(d.length:Int) > qo (nth y.2.2.2.1 i di-a.length):=by rw[hwm]; omega
     have e2:0+(qo (nth y.2.2.2.1 i di-a.length)).toNat<d.length:=O
     have hp:=Mv d _ J e2
     refine qt e1 (zj ⟨rfl,e2⟩ (ze (ze (ze (zj ⟨by rw[List.length_set],rfl,by rw[List.length_set]⟩ (ze (z8 (z8 (z8 (z8 (zj (by rw[List.length_set]) (z8 (zi ?_)))))))))))))
     rw[hw]
     exact⟨⟨i+1,k,a,_,rfl,⟨hoa,ha,BW _ _ _ J hp.1 hp.2,by rw[List.length_set]; exact Ez⟩,O,O⟩,by simp only; omega⟩
   ·exact ze (ze (ze (ze (ze (z8 (z8 (z8 (z8 (z8 (z8 (zi ⟨k,a,d,rfl,hoa,ha,J,Ez⟩)))))))))))
  ·rintro _ ⟨k,a,d,rfl,hT⟩
   exact ze (ze (ze (ze (ze (z8 (z8 (z8 (z8 (z8 (zi ⟨a,d,rfl,hT⟩))))))))))⟩
def Dx(f:Form)(d:qe):Prop:=Dw d/\FV f/\f.2.2.2.1.length<=64/\f.2.2.2.2.1.length<=64/\d.2.2.1.length=f.2.2.2.1.length/\d.2.2.2.1.length=f.2.2.2.2.1.length/\d.2.2.2.2.1.length=f.2.2.2.1.length/\d.2.2.2.2.2.1.length=f.2.2.2.1.length/\d.1.length=f.2.1.length/\d.2.1.length=f.1.length
theorem z97{α:Type}{t:T α}{Q:α->Prop}(k:t.wp Q):(T.W (zw 0 0 0 0) (T.W (zw 0 0 0 0) (T.W (zw 0 0 0 0) (T.W (zw 0 0 0 0) (oZ (T.W ((0:Nat)=0) (T.W ((0:Nat)=0) (T.W ((0:Nat)=0) (T.W ((0:Nat)=0) t))))))))).wp Q:=by
 have c:zw 0 0 0 0:=⟨rfl,rfl,rfl⟩
 exact⟨c,c,c,c,c,rfl,rfl,rfl,rfl,rfl,k⟩
theorem zdq{α A zA C D zB:Type}{a:List A}{b:List zA}{c:List C}{d:List D}{e:List zB}{t:T α}{Q:α->Prop}(k:t.wp Q):(oC a (oC b (oC c (oC d (oC e (U a (U b (U c (U d (U e t)))))))))).wp Q :=
 ze (ze (ze (ze (ze (z8 (z8 (z8 (z8 (z8 k)))))))))
abbrev D8(r:((List Lf.Rat)×Unit)×(List zx)×Int×(List Lf.Rat)×(List Bool)×(List Int)×(List qk)×(List Bool)):qe:=(r.2.2.2.1,r.2.2.2.2.1,r.1.1,r.2.2.2.2.2.1,r.2.2.2.2.2.2.1,r.2.2.2.2.2.2.2,())
instance (f:Form) (d:qe):Sp (dL f d) (FW 8200 f/\Dw d) (λr=>(r.2.2.1=0->Dx f (D8 r))/\r.2.1.length<=1):=⟨λ⟨hF,hD⟩=>by
 unfold dL
 refine za ⟨hF,hD⟩ λz hz => ?_
 rcases z with⟨k,a,b,c,e⟩ | ⟨n,m⟩
 ·obtain⟨rfl,rfl,⟨b1,b2,b3,b4⟩,hV,f1,f2,l1,l2,l3,l4,l5,l6,-⟩:=hz
  refine wC rfl (z8 (z8 (z8 ?_)))
  rw[cJ,cJ,cJ]
  refine za ⟨⟨b1,b2,b3,b4⟩,hD.2.2.1,by show a.2.2.2.2.1.length<=_; omega,by show a.2.2.2.1.length<=_; omega⟩ λ⟨v,ns,err,y⟩ hp=>zg (λe=>z97 (zi ⟨λq => ?_,hp.2⟩)) λe => ?_
  ·have q:err=0:=q
   rw[q]at e; cases e
  ·obtain⟨p1,p2,p3,p4,-,p5⟩:=hp.1 (by simpa using e)
   have p4:y.1=a:=p4
   have p2:v.length=d.2.2.1.length:=p2
   refine za ⟨hD,⟨p3,p5⟩,by rw[p4]; omega,by rw[p4]; omega⟩ λ_ hr => ?_
   obtain⟨o,ps,rfl,Hi,t1,t2,t3⟩:=hr
   exact zdq (zi ⟨λ_=>⟨⟨hD.1,hD.2.1,p1,by show o.length<=_; omega,t2,hD.2.2.2.2.2.1,Hi⟩,hV,f1,f2,by show v.length=_; omega,by show o.length=_; omega,by show ps.length=_; omega,l4,l5,l6⟩,V _⟩)
 ·have hz:m≠0/\n.length<=1:=hz
  refine uz (by simpa using hz.1) (z97 (zi ⟨λq=>absurd q hz.1,hz.2⟩))⟩
open T PL
abbrev N12:=List Bool×List Bool×List Bool×List Bool×List qk×List qk×List Int×List Int×List Lf.Rat×List Lf.Rat×List Lf.Rat×List Lf.Rat
abbrev N15:=Int×Unit×Unit×N12
def ra(l:List Lf.Rat):Prop:=∀ x∈l,rg x/\rl x<=1700
def pa(l:List qk):Prop:=∀ x∈l,Pn x
def Nw(m n p r s:Nat)(t:N12):Prop:=t.2.2.1.length=m/\t.2.2.2.1.length=n/\(pa t.2.2.2.2.2.1/\t.2.2.2.2.2.1.length=n)/\(ou t.2.2.2.2.2.2.2.1/\t.2.2.2.2.2.2.2.1.length=p)/\(ra t.2.2.2.2.2.2.2.2.2.2.1/\t.2.2.2.2.2.2.2.2.2.2.1.length=r)/\(ra t.2.2.2.2.2.2.2.2.2.2.2/\t.2.2.2.2.2.2.2.2.2.2.2.length=s)
theorem UT{α:Type}(l:List α)(x:α):(l++[x]).length=l.length+1:=qz
theorem cu1{α:Type}(l:List α)(x:α):zw (l.length+1) 0 (l.length+1) (l++[x]).length:=by rw[UT]; exact⟨rfl,rfl,rfl⟩
instance (f:Form):Sp (XM f) (F9 f) (λr=>(r.2.2.1=0->Dx f (D8 r))/\r.2.1.length<=1):=⟨λ⟨hF,hp⟩=>by
 have n0:=hF.1.1
 have n1:=hF.2.1.1
 have n2:=hF.2.2.2.1.1
 have n3:=hF.2.2.2.2.1.1
 unfold XM
 iterate 11 refine zj ⟨rfl,rfl,rfl⟩ ?_
 refine zj ⟨rfl,rfl,rfl⟩ (zj rfl ?_)
 iterate 11 refine zj rfl ?_
 refine xl (wj (P:=λz=>Nw 0 0 0 f.2.1.length 0 z.2.2) ?_ ?_)
 ·unfold VP
  refine vS (λz:N15=>∃ k:Nat,z.1=(k:Int)/\k<=f.2.1.length/\Nw 0 0 0 k 0 z.2.2.2) (λz:N15=>((f.2.1.length:Int)-z.1).toNat) ⟨0,rfl,O,rfl,rfl,⟨nofun,rfl⟩,⟨nofun,rfl⟩,⟨nofun,rfl⟩,nofun,rfl⟩ ?_
  rintro⟨_,u,v,c,d,e,g,h,i,j,k,l,m,a,b⟩ ⟨n,rfl,h1,w1,w2,⟨w3,w4⟩,⟨w0,w5⟩,⟨w6,w7⟩,w8,w9⟩
  dsimp only at w0 w1 w2 w3 w4 w5 w6 w7 w8 w9
  unfold Zs
  refine zg (λJ => ?_) λJ => ?_
  ·have J:=uA J
   have hn:nth f.2.1 (n:Int) (zb qg)∈f.2.1:=xx (O) J
   have q1:=hF.2.1.2 _ hn
   have q2:=hp _ hn
   have hw:qo ((n:Int)+1)=n+1:=qv (O) (O)
   refine qt ⟨O,J⟩ (za ⟨q1.2.1,E q2 (xn)⟩ λo ho => ?_)
   have q3:rl o<=max 1 (rl (nth f.2.1 (n:Int) (zb qg)).2.1):=ho.2.1
   repeat' (with_reducible first | refine z8 ?_ | refine ze ?_ | refine vT (O) ?_ | refine zj (cu1 _ _) ?_ | refine zj (UT _ _).symm ?_ | refine zi ?_)
   rw[hw]
   exact⟨⟨n+1,rfl,O,w1,w2,⟨w3,w4⟩,⟨w0,w5⟩,⟨yT w6 ⟨ho.1,O⟩,by show(_++[_]).length=_; rw[UT]; omega⟩,w8,w9⟩,by simp only; omega⟩
  ·have J:=gm J
   have e:n=f.2.1.length:=O
   repeat' (with_reducible first | refine z8 ?_ | refine ze ?_)
   exact zi ⟨w1,w2,⟨w3,w4⟩,⟨w0,w5⟩,⟨w6,by show a.length=_; omega⟩,w8,w9⟩
 rintro⟨u,v,c,d,e,g,h,i,j,k,l,m,a,b⟩ ⟨w1,w2,⟨w3,w4⟩,⟨w0,w5⟩,⟨w6,w7⟩,w8,w9⟩
 dsimp only at w0 w1 w2 w3 w4 w5 w6 w7 w8 w9
 repeat' (with_reducible first | refine z8 ?_ | refine ze ?_)
 refine xl (wj (P:=λz=>Nw f.1.length 0 0 f.2.1.length 0 z.2.2) ?_ ?_)
 ·unfold VQ
  refine vS (λz:N15=>∃ k:Nat,z.1=(k:Int)/\k<=f.1.length/\Nw k 0 0 f.2.1.length 0 z.2.2.2) (λz:N15=>((f.1.length:Int)-z.1).toNat) ⟨0,rfl,O,w1,w2,⟨w3,w4⟩,⟨w0,w5⟩,⟨w6,w7⟩,w8,w9⟩ ?_
  rintro⟨_,u,v,c,d,e,g,h,i,j,k,l,m,a,b⟩ ⟨n,rfl,h1,w1,w2,⟨w3,w4⟩,⟨w0,w5⟩,⟨w6,w7⟩,w8,w9⟩
  dsimp only at w0 w1 w2 w3 w4 w5 w6 w7 w8 w9
  unfold Zt
  refine zg (λJ => ?_) λJ => ?_
  ·have J:=uA J
   have hw:qo ((n:Int)+1)=n+1:=qv (O) (O)
   refine qt ⟨O,J⟩ ?_
   repeat' (with_reducible first | refine z8 ?_ | refine ze ?_ | refine vT (O) ?_ | refine zj (cu1 _ _) ?_ | refine zj (UT _ _).symm ?_ | refine zi ?_)
   rw[hw]
   exact⟨⟨n+1,rfl,O,by show(_++[_]).length=_; rw[UT]; omega,w2,⟨w3,w4⟩,⟨w0,w5⟩,⟨w6,w7⟩,w8,w9⟩,by simp only; omega⟩
  ·have J:=gm J
   have e':n=f.1.length:=O
   repeat' (with_reducible first | refine z8 ?_ | refine ze ?_)
   exact zi ⟨by show e.length=_; omega,w2,⟨w3,w4⟩,⟨w0,w5⟩,⟨w6,w7⟩,w8,w9⟩
 clear w0 w1 w2 w3 w4 w5 w6 w7 w8 w9
 rintro⟨u,v,c,d,e,g,h,i,j,k,l,m,a,b⟩ ⟨w1,w2,⟨w3,w4⟩,⟨w0,w5⟩,⟨w6,w7⟩,w8,w9⟩
 dsimp only at w0 w1 w2 w3 w4 w5 w6 w7 w8 w9
 repeat' (with_reducible first | refine z8 ?_ | refine ze ?_)
 refine xl (wj (P:=λz=>Nw f.1.length f.2.2.2.1.length 0 f.2.1.length f.2.2.2.1.length z.2.2) ?_ ?_)
 ·unfold VR
  refine vS (λz:N15=>∃ k:Nat,z.1=(k:Int)/\k<=f.2.2.2.1.length/\Nw f.1.length k 0 f.2.1.length k z.2.2.2) (λz:N15=>((f.2.2.2.1.length:Int)-z.1).toNat) ⟨0,rfl,O,w1,w2,⟨w3,w4⟩,⟨w0,w5⟩,⟨w6,w7⟩,w8,w9⟩ ?_
  rintro⟨_,u,v,c,d,e,g,h,i,j,k,l,m,a,b⟩ ⟨n,rfl,h1,w1,w2,⟨w3,w4⟩,⟨w0,w5⟩,⟨w6,w7⟩,w8,w9⟩
  dsimp only at w0 w1 w2 w3 w4 w5 w6 w7 w8 w9
  unfold Zu
  refine zg (λJ => ?_) λJ => ?_
  ·have J:=uA J
   have hw:qo ((n:Int)+1)=n+1:=qv (O) (O)
   refine za ⟨xn,xn⟩ λp hp=>vT (O) (za ⟨xn,xn⟩ λq hq => ?_)
   repeat' (with_reducible first | refine z8 ?_ | refine ze ?_ | refine vT (O) ?_ | refine zj (cu1 _ _) ?_ | refine zj (UT _ _).symm ?_ | refine zi ?_)
   rw[hw]
   have hq1:rl q<=2:=hq.2
   exact⟨⟨n+1,rfl,O,w1,by show(_++[_]).length=_; rw[UT]; omega,⟨yT w3 ⟨hq.1,E hq1 (xn)⟩,by show(_++[_]).length=_; rw[UT]; omega⟩,⟨w0,w5⟩,⟨w6,w7⟩,yT w8 ⟨hp.1,O⟩,by show(_++[_]).length=_; rw[UT]; omega⟩,by simp only; omega⟩
  ·have J:=gm J
   have e:n=f.2.2.2.1.length:=O
   repeat' (with_reducible first | refine z8 ?_ | refine ze ?_)
   exact zi ⟨w1,by show g.length=_; omega,⟨w3,by show i.length=_; omega⟩,⟨w0,w5⟩,⟨w6,w7⟩,w8,by show b.length=_; omega⟩
 clear w0 w1 w2 w3 w4 w5 w6 w7 w8 w9
 rintro⟨u,v,c,d,e,g,h,i,j,k,l,m,a,b⟩ ⟨w1,w2,⟨w3,w4⟩,⟨w0,w5⟩,⟨w6,w7⟩,w8,w9⟩
 dsimp only at w0 w1 w2 w3 w4 w5 w6 w7 w8 w9
 repeat' (with_reducible first | refine z8 ?_ | refine ze ?_)
 refine xl (wj (P:=λz=>Nw f.1.length f.2.2.2.1.length f.2.2.2.2.1.length f.2.1.length f.2.2.2.1.length z.2.2) ?_ ?_)
 ·unfold VS
  refine vS (λz:N15=>∃ k:Nat,z.1=(k:Int)/\k<=f.2.2.2.2.1.length/\Nw f.1.length f.2.2.2.1.length k f.2.1.length f.2.2.2.1.length z.2.2.2) (λz:N15=>((f.2.2.2.2.1.length:Int)-z.1).toNat) ⟨0,rfl,O,w1,w2,⟨w3,w4⟩,⟨w0,w5⟩,⟨w6,w7⟩,w8,w9⟩ ?_
  rintro⟨_,u,v,c,d,e,g,h,i,j,k,l,m,a,b⟩ ⟨n,rfl,h1,w1,w2,⟨w3,w4⟩,⟨w0,w5⟩,⟨w6,w7⟩,w8,w9⟩
  dsimp only at w0 w1 w2 w3 w4 w5 w6 w7 w8 w9
  unfold Zv
  refine zg (λJ => ?_) λJ => ?_
  ·have J:=uA J
   have hw:qo ((n:Int)+1)=n+1:=qv (O) (O)
   repeat' (with_reducible first | refine z8 ?_ | refine ze ?_ | refine vT (O) ?_ | refine zj (cu1 _ _) ?_ | refine zj (UT _ _).symm ?_ | refine zi ?_)
   rw[hw]
   exact⟨⟨n+1,rfl,O,w1,w2,⟨w3,w4⟩,⟨yT w0 (xn),by show(_++[_]).length=_; rw[UT]; omega⟩,⟨w6,w7⟩,w8,w9⟩,by simp only; omega⟩
  ·have J:=gm J
   have e:n=f.2.2.2.2.1.length:=O
   repeat' (with_reducible first | refine z8 ?_ | refine ze ?_)
   exact zi ⟨w1,w2,⟨w3,w4⟩,⟨w0,by show k.length=_; omega⟩,⟨w6,w7⟩,w8,w9⟩
 clear w0 w1 w2 w3 w4 w5 w6 w7 w8 w9
 rintro⟨u,v,c,d,e,g,h,i,j,k,l,m,a,b⟩ ⟨w1,w2,⟨w3,w4⟩,⟨w0,w5⟩,⟨w6,w7⟩,w8,w9⟩
 dsimp only at w0 w1 w2 w3 w4 w5 w6 w7 w8 w9
 repeat' (with_reducible first | refine z8 ?_ | refine ze ?_)
 rw[cJ,cJ,cJ,cJ,cJ,cJ]
 refine za ⟨hF,⟨by show a.length<=_; omega,w6⟩,by show e.length<=_; omega,⟨by show b.length<=_; omega,w8⟩,by show k.length<=_; omega,⟨by show i.length<=_; omega,w3⟩,by show g.length<=_; omega,w0⟩ λr hr=>zdq (zi hr)⟩
open T PL
theorem mq{α A zA C:Type}{a:List A}{b:List zA}{c:List C}{t:T α}{Q:α->Prop}(k:t.wp Q):(oC a (oC b (oC c (U a (U b (U c t)))))).wp Q:=ze (ze (ze (z8 (z8 (z8 k)))))
theorem Lh{α:Type}{a:List α}{i:Nat}{d:α}(h:i<a.length):wh a i d∈a:=by unfold wh; rw[B,zJ h]; exact zO h
instance (i:Int) (m:List Lf.Rat) (f:Form) (a:List vI) (b e:List Int):Sp (ba i m f a b e) (Bt f a b e/\0<=i/\i<a.length/\rs m) (λr=>∃ q,r=(q,f,a,b,e)):=⟨λ⟨⟨h1,M,h3,h4⟩,g0,g1,hv⟩=>by
 have hc:ck (wh a (0+i.toNat) (zb zr)):=h1.2 _ (Lh (O))
 have n1:=h1.1
 unfold ba
 refine qt ⟨g0,g1⟩ (zj ⟨rfl,O⟩ (qt ⟨g0,O⟩ (zj ⟨rfl,O⟩ (zg (λ_=>za ⟨hc,hv⟩ λo _=>mq (zi ⟨o,rfl⟩)) λ_ => ?_))))
 refine xl (wj (P:=λz=>∃ q,z=(q,f,a,b,e,wh a (0+i.toNat) (zb zr))) (zg (λ_=>za ⟨hc.1.2,E (DX _) (E hc.2.1 (xn))⟩ λq _=>mq (zi ⟨q,rfl⟩)) λ_=>mq (zi ⟨_,rfl⟩)) ?_)
 rintro _ ⟨q,rfl⟩
 dsimp only
 rw[cJ,cJ]
 have hB:Cw a/\b.length<=1000000:=⟨csw h1,O⟩
 exact zg (λ_=>z8 (z8 (za hB λs _=>mq (zi ⟨s,rfl⟩)))) λ_=>zg (λ_=>z8 (z8 (za hB λs _=>mq (zi ⟨s,rfl⟩)))) λ_=>mq (zi ⟨_,rfl⟩)⟩
instance (a:Lf.Rat):Sp (bT a) (rg a/\rl a<=1700) (λr=>r=true->rl (norm a)<=16):=⟨λh=>by
 have h1:rl a<=5000000:=E h.2 (xn)
 have M:rl a<=50000000:=E h.2 (xn)
 unfold bT
 exact za ⟨h.1,h1⟩ λb _=>zg (λ_=>za ⟨h.1,M⟩ λc hc=>zi λe=>hc (by simpa using e)) λ_=>zi nofun⟩
instance (a:Lf.Rat):Sp (fg a) (rg a/\rl a<=1700) (λ_=>True):=⟨λh=>by
 unfold fg
 exact za h λb _=>zi trivial⟩
instance (a:qk):Sp (fh a) (Pn a) (λ_=>True):=⟨λh=>by
 have M:rl a.2.2.1<=50000000:=E h.2 (xn)
 unfold fh J4
 exact za (s:=⟨λ_=>za h λb _=>zg (λ_=>zg (λ_=>zi trivial) λ_=>zg (λ_=>za ⟨h.1,M⟩ λc _=>zi trivial) λ_=>zi trivial) λ_=>zi trivial⟩) (pre:=True) (post:=λ_=>True) trivial λ_ _=>zi trivial⟩
instance (f:Form) (d:qe):Sp (QP f d) (FW 8200 f/\Dw d) (λr=>r=true->Dx f d):=⟨λ⟨hF,hD⟩=>by
 unfold QP
 refine za ⟨hF,hD⟩ λz hz => ?_
 have hv:d.2.2.1.length<=1000000000000:=E hD.2.2.1.1 (xn)
 have hp:d.2.2.2.2.1.length<=1000000000000:=E hD.2.2.2.2.1.1 (xn)
 rcases z with⟨k,a,b,c,e⟩ | ⟨n,m⟩
 ·obtain⟨rfl,rfl,hB,hV,f1,f2,l1,l2,l3,l4,l5,l6,-⟩:=hz
  have hX:Dx a d:=⟨hD,hV,f1,f2,l1,l2,l3,l4,l5,l6⟩
  have n1:=hB.1.1
  have n2:=hB.2.1
  have n3:=hB.2.2.1
  refine wC rfl (za ⟨hv,hD.2.2.1.2⟩ λx _=>zg (λ_=>zi nofun) λ_=>za ⟨hp,hD.2.2.2.2.1.2⟩ λy _=>zg (λ_=>zi nofun) λ_=>mq ?_)
  refine xl (wj (P:=λz=>z=.inl (a,b,c,e)\/∃ w,z=.inr (false,w)) ?_ ?_)
  ·unfold HF
   refine vS (λz:Int×Form×List vI×List Int×List Int=>∃ i:Int,z=(i,a,b,c,e)/\0<=i/\i<=d.2.2.2.1.length) (λz:Int×Form×List vI×List Int×List Int=>((d.2.2.2.1.length:Int)-z.1).toNat) ⟨0,rfl,xn,O⟩ ?_
   rintro _ ⟨i,rfl,i0,i1⟩
   unfold J2
   refine zg (λJ => ?_) λJ=>ze (ze (ze (z8 (z8 (z8 (zi (.inl rfl)))))))
   have J:=uA J
   have hw:qo (i+1)=i+1:=qv (O) (O)
   refine qt ⟨i0,J⟩ (xl (wj (P:=λz=>∃ q,z=(q,a,b,c,e)) (zg (λ_=>z8 ?_) λ_=>mq (zi ⟨_,rfl⟩)) ?_))
   ·rw[cJ]
    exact za (O) λq _=>mq (zi ⟨_,rfl⟩)
   ·rintro _ ⟨q,rfl⟩
    refine zg (λ_=>mq (zi (.inr ⟨_,rfl⟩))) λ_=>mq (zi ?_)
    rw[hw]
    exact⟨⟨i+1,rfl,O,O⟩,by simp only; omega⟩
  ·rintro _ (rfl | ⟨w,rfl⟩)
   ·refine z8 (z8 ?_)
    rw[cJ,cJ]
    refine za ⟨csw hB.1,O⟩ λn hn=>zg (λ_=>zi nofun) λ_=>mq ?_
    refine xl (wj (P:=λz=>True) ?_ λz _ => ?_)
    ·unfold HG
     refine vS (λz:Int×Form×List vI×List Int×List Int=>∃ i:Int,z=(i,a,b,c,e)/\0<=i/\i<=b.length) (λz:Int×Form×List vI×List Int×List Int=>((b.length:Int)-z.1).toNat) ⟨0,rfl,xn,O⟩ ?_
     rintro _ ⟨i,rfl,i0,i1⟩
     unfold J3
     refine zg (λJ=>mq ?_) λJ=>mq (zi trivial)
     have J:=uA J
     have hw:qo (i+1)=i+1:=qv (O) (O)
     refine za ⟨hB,i0,J,hD.2.2.1⟩ λ_ ⟨q,hq⟩ => ?_
     subst hq
     refine zg (λ_=>mq (zi trivial)) λ_=>mq (zi ?_)
     rw[hw]
     exact⟨⟨i+1,rfl,O,O⟩,by simp only; omega⟩
    ·rcases z with z | z
     ·exact zi λ_=>hX
     ·exact zi λ_=>hX
   ·exact zi nofun
 ·have hz:m≠0/\n.length<=1:=hz
  exact uz (by simpa using hz.1) (zi nofun)⟩
open T PL
theorem nz{p:Prop}{a:Int}(h:a≠0):a=0->p:=λq=>absurd q h
instance (a:Field) (s:zx):Sp (dK a s) True (λ_=>True):=⟨λ_=>by unfold dK; exact zi trivial⟩
instance (f:Form) (s:zx):Sp (tQ f s) (f.2.2.2.1.length<=8200) (λr => -1<=r/\r<f.2.2.2.1.length):=⟨λh=>by
 unfold tQ
 refine za ⟨O,λ_ _=>trivial⟩ λr hr=>zi ?_
 rcases hr with⟨rfl,_⟩ | ⟨h1,M,_⟩<;>omega⟩
theorem z57(a:uk)(h:Sys a)(b:Int):Sys (a.1,jI (e:=zr) 0 b a.2.1,jI (e:=.int .i64) 0 b a.2.2.1,jI (e:=.int .i64) 0 b a.2.2.2.1,()):=by
 obtain⟨⟨h1,M⟩,h3,h4,h5⟩:=h
 exact⟨⟨E (List.length_take_le' ..) h1,λc hc=>M c (zF hc)⟩,by show(zK _ _).length=(zK _ _).length; rw[zH,zH,h3],by show(zK _ _).length=(zK _ _).length; rw[zH,zH,h4],λi hi=>h5 i (zF hi)⟩
instance (f:Form) (d:qe) (s:zx) (v:Lf.Rat):Sp (VO f d s v) (FW 8200 f/\Dw d/\rg v/\rl v<=1700) (λr=>(r.2.2=0->Dx f r.1)/\r.2.1.length<=1):=⟨λ⟨hF,hD,hv⟩=>by
 unfold VO
 refine za hF.2.2.2.1.1 λi hi=>za ⟨hF,hD⟩ λy hy=>zg (λ_=>zi ⟨nz (a:=1) (xn),V _⟩) λe=>zg (λ_=>zi ⟨nz (a:=5) (xn),V _⟩) λe2=>za hv λz _=>zg (λ_=>zi ⟨nz (a:=8) (xn),zT _⟩) λ_=>za ⟨hF,hD⟩ λw hw => ?_
 have i0:=gm e2
 rcases w with⟨k,a,b,c,e⟩ | ⟨n,m⟩
 ·obtain⟨rfl,rfl,⟨b1,b2,b3,b4⟩,hV,f1,f2,l1,l2,l3,l4,l5,l6,l7⟩:=hw
  have i1:i<a.2.2.2.1.length:=hi.2
  have i2:0<=i:=O
  have g1:a.2.2.2.1.length<=10000:=O
  have g2:a.2.2.2.2.1.length<=10000:=O
  refine wC rfl (mq (za ⟨hv,⟨b1,O⟩,O,O,i2,i1,g1,g2,b4⟩ λ⟨a',p,q,r⟩ hr=>z8 (z8 (z8 ?_))))
  obtain⟨⟨r1,r2⟩,r3,⟨r4,r5⟩,r6⟩:=hr
  dsimp only at r1 r2 r3 r4 r5 r6
  subst r6
  rw[cJ,cJ,cJ]
  refine za ⟨⟨r1,by show q.length=p.length; omega,by show r.length=p.length; omega,r5⟩,hD.2.2.1,g2,g1⟩ λ⟨A,zA,u,y⟩ hp => ?_
  dsimp only
  refine zg (λe=>zi ⟨nz (by simpa using e),hp.2⟩) λe => ?_
  obtain⟨p1,p2,p3,p4,p5,-⟩:=hp.1 (by simpa using e)
  dsimp only at p1 p2 p3 p4 p5
  have q1:y.2.1.length=b.length+1:=by rw[p5]; exact r2
  have q2:=p3.2.1
  have q3:=p3.2.2.1
  have q4:qo ((y.2.1.length:Int)-1)=b.length:=by rw[q1]; exact(qv (O) (O)).trans (O)
  rw[q4]
  refine qt ⟨O,O⟩ (zg (λ_=>zi ⟨nz (a:=11) (xn),zT _⟩) λ_=>zj ⟨O,O,O⟩ (zj ⟨O,O,O⟩ (zj ⟨O,O,O⟩ (za ⟨z57 y p3 b.length,p1,by show y.1.2.2.2.2.1.length<=_; rw[p4]; exact g2,by show y.1.2.2.2.1.length<=_; rw[p4]; exact g1⟩ λ⟨C,D,v,zB⟩ hq => ?_))))
  refine zg (λe=>zi ⟨nz (by simpa using e),hq.2⟩) λe => ?_
  obtain⟨s1,s2,s3,s4,-,s5⟩:=hq.1 (by simpa using e)
  dsimp only at s1 s2 s3 s4 s5
  rw[p4]at s4
  refine za ⟨hD,⟨s3,s5⟩,by rw[s4]; exact l2,by rw[s4]; exact l3⟩ λ_ hr => ?_
  obtain⟨o,ps,rfl,Hi,t1,t2,t3⟩:=hr
  refine qt ⟨i2,by show i<d.2.2.2.2.2.1.length; omega⟩ (zj ⟨rfl,by show 0+i.toNat<d.2.2.2.2.2.1.length; omega⟩ (z8 (z8 (z8 (z8 (z8 (zi ⟨λ_ => ?_,V _⟩)))))))
  rw[cJ,cJ,cJ,cJ]
  have hs:(zQ 0 (zK (0+d.2.2.2.2.2.1.length) (List.set d.2.2.2.2.2.1 (0+i.toNat) true))).length=d.2.2.2.2.2.1.length:=qz
  have n4:=hD.2.2.2.1
  have n6:=hD.2.2.2.2.2.1
  exact⟨⟨hD.1,hD.2.1,s1,by show o.length<=_; omega,t2,by show(zQ 0 (zK (0+d.2.2.2.2.2.1.length) (List.set d.2.2.2.2.2.1 (0+i.toNat) true))).length<=_; omega,Hi⟩,hV,f1,f2,by show C.length=_; omega,by show o.length=_; omega,by show ps.length=_; omega,hs.trans l4,l5,l6⟩
 ·have hw:m≠0/\n.length<=1:=hw
  exact uz (by simpa using hw.1) (zi ⟨nz hw.1,hw.2⟩)⟩
open T PL
theorem z96{α A zA C D zB F:Type}{a:List A}{b:List zA}{c:List C}{d:List D}{e:List zB}{f:List F}{t:T α}{Q:α->Prop}(k:t.wp Q):(oW a b c d e f t).wp Q :=
 z8 (z8 (z8 (z8 (z8 (z8 k)))))
instance (f:Form) (d:qe) (s:zx) (x:Bool):Sp (Zw f d s x) (FW 8200 f/\Dw d) (λr=>(r.2.2=0->Dx f r.1)/\r.2.1.length<=1):=⟨λ⟨hF,hD⟩=>by
 unfold Zw
 refine za hF.2.2.2.1.1 λi hi=>za ⟨hF,hD⟩ λy hy=>zg (λ_=>zi ⟨nz (a:=1) (xn),V _⟩) λe=>zg (λ_=>zi ⟨nz (a:=5) (xn),V _⟩) λe2 => ?_
 have i0:=gm e2
 obtain⟨-,hV,f1,f2,l1,l2,l3,l4,l5,l6⟩:=hy (by simpa using e)
 have US:=hi.2
 have j1:0<=i/\i<(d.2.2.2.2.1.length:Int):=O
 have j2:0<=i/\i<(d.2.2.1.length:Int):=O
 refine zj (λ_=>j1) (zg (λ_=>zi ⟨nz (a:=1) (xn),V _⟩) λ_=>zj (λ_=>j1) (zg (λ_=>zi ⟨nz (a:=12) (xn),V _⟩) λ_=>za hD λ_ e => ?_))
 subst e
 refine za ⟨xn,xn⟩ λk hk => ?_
 have mZ:rl k<=2:=hk.2
 have hv:=D4 hD.2.2.1 i j2.1 j2.2
 have hD5:=hD.2.2.2.2.1
 have q1:=BW d.2.2.2.2.1 (0+i.toNat) (false,false,(k.1,k.2.1,k.2.2.1,()),()) hD5 hk.1 (E mZ (xn))
 have q2:=BW _ (0+i.toNat) (true,false,((nth d.2.2.1 i (zb zl)).1,(nth d.2.2.1 i (zb zl)).2.1,(nth d.2.2.1 i (zb zl)).2.2.1,()),()) q1 hv.1 hv.2
 dsimp only
 refine qt j1 (zj ⟨rfl,O⟩ (xl (wj (P:=λz=>∃ (w:qe) (ps:List qk),z=(w,d.1,d.2.1,d.2.2.1,d.2.2.2.1,ps,d.2.2.2.2.2.1,())/\Ps ps/\ps.length=d.2.2.2.2.1.length) (zg (λ_=>qt j2 (qt j1 (zj ⟨rfl,by rw[List.length_set]; omega⟩ ?_))) λ_ => ?_) ?_)))
 ·exact z8 (z8 (z8 (z8 (zj (by rw[List.length_set,List.length_set]) (z8 (ze (ze (ze (ze (zj ⟨by rw[List.length_set,List.length_set],rfl,by rw[List.length_set,List.length_set]⟩ (ze (zi ⟨_,_,rfl,q2,by rw[List.length_set,List.length_set]⟩))))))))))))
 ·exact z8 (z8 (z8 (z8 (zj (by rw[List.length_set]) (z8 (ze (ze (ze (ze (zj ⟨by rw[List.length_set],rfl,by rw[List.length_set]⟩ (ze (zi ⟨_,_,rfl,q1,by rw[List.length_set]⟩))))))))))))
 ·rintro _ ⟨w,ps,rfl,hp,Yn⟩
  dsimp only
  rw[cJ,cJ,cJ,cJ,cJ,cJ]
  refine z96 (za ⟨hF,hD.1,hD.2.1,hD.2.2.1,hD.2.2.2.1,hp,hD.2.2.2.2.2⟩ λ⟨z,A,zA,r,s,t,u,v⟩ hr=>z8 (z8 (z8 (z8 (z8 (zi ?_))))))
  rw[cJ,cJ,cJ,cJ,cJ]
  exact hr⟩
open T PL
instance (a b:List Int):Sp (jq a b) (a.length<=1000000) (λ_=>True):=⟨λh=>by
 unfold jq dZ
 refine zg (λe=>zi trivial) λe => ?_
 have e:(a.length:Int)=b.length:=by simpa using e
 refine xl (wj (P:=λz=>True) ?_ λz hz => ?_)
 ·refine vS (σ:=Int) (λi=>0<=i/\i<=a.length) (λi=>(a.length-i).toNat) ⟨O,O⟩ λi hi => ?_
  unfold gn
  refine zg (λJ => ?_) λJ=>zi trivial
  have J:=uA J
  have hw:qo (i+1)=i+1:=qv (O) (O)
  refine qt ⟨hi.1,J⟩ (qt ⟨hi.1,O⟩ (zg (λk=>zi trivial) λk=>zi ?_))
  rw[hw]; exact⟨⟨O,O⟩,O⟩
 ·rcases z with z | z<;>exact zi trivial⟩
theorem SQ{a:Lf.Rat}:a.2.1.length<=rl a/\a.2.2.1.length<=rl a:=by unfold rl; omega
instance (a b:Lf.Rat):Sp (Xn a b) (rg a/\rg b/\rl a<=20700/\rl b<=20700) (λ_=>True):=⟨λ⟨h1,M,h3,h4⟩=>by
 unfold Xn
 refine za ⟨h1,E h3 (xn)⟩ λx N=>za ⟨M,E h4 (xn)⟩ λy _=>zg (λ_ => ?_) λ_=>zi trivial
 have l1:=(SQ (a:=x)).1
 have l2:=(SQ (a:=x)).2
 have l3:=N.2.1
 exact za (O) λc _=>zg (λ_=>za (O) λd _=>zi trivial) λ_=>zi trivial⟩
instance (a b:vI):Sp (VE a b) (ck a/\ck b) (λ_=>True):=⟨λ⟨ha,I⟩=>by
 have ka:=E (DX a) ha.2.1
 have kb:=E (DX b) I.2.1
 unfold VE
 refine zg (λ_=>za ⟨ha.1.2,I.1.2,ka,kb⟩ λc _=>zg (λ_=>xl (wj (P:=λ_=>True) ?_ λ_ _=>zi trivial)) λ_=>zi trivial) λ_=>zi trivial
 unfold jo yv
 refine zg (λe=>zi trivial) λe => ?_
 have e:(a.2.1.length:Int)=b.2.1.length:=by simpa using e
 have n1:=ha.2.2
 refine xl (wj (P:=λz=>True) ?_ λz hz => ?_)
 ·refine vS (σ:=Int) (λi=>0<=i/\i<=a.2.1.length) (λi=>(a.2.1.length-i).toNat) ⟨O,O⟩ λi hi => ?_
  unfold uU
  refine zg (λJ => ?_) λJ=>zi trivial
  have J:=uA J
  have hw:qo (i+1)=i+1:=qv (O) (O)
  have m1:nth a.2.1 i (zb qj)∈a.2.1:=xx hi.1 J
  have m2:nth b.2.1 i (zb qj)∈b.2.1:=xx hi.1 (O)
  have c1:tb a.2.1<=cb a:=by unfold cb; omega
  have c2:tb b.2.1<=cb b:=by unfold cb; omega
  have r1:=E (E (Xy m1) c1) ha.2.1
  have r2:=E (E (Xy m2) c2) I.2.1
  refine qt ⟨hi.1,J⟩ (qt ⟨hi.1,O⟩ (xl (wj (P:=λ_=>True) ?_ λd _=>zg (λk=>zi trivial) λk=>zi ?_)))
  ·unfold mN
   exact zg (λ_=>za ⟨ha.1.1 _ m1,I.1.1 _ m2,r1,r2⟩ λc _=>zi trivial) λ_=>zi trivial
  ·rw[hw]; exact⟨⟨O,O⟩,O⟩
 ·rcases z with z | z<;>exact zi trivial⟩
open T PL
abbrev X5:=List Lf.Rat×List Bool×List Lf.Rat×List qk×List Bool×Unit
abbrev xd(x:X5)(a:List Int):qe:=(x.1,x.2.1,x.2.2.1,a,x.2.2.2.1,x.2.2.2.2.1,())
instance (f:Form) (d:X5) (rw:List Int):Sp (ez f d rw) (FW 8200 f/\Dw (xd d rw)) (λr=>match r with | .inl (k,y,a,b,c,e)=>k=0/\y=rw/\a=f/\Bt f b c e | .inr (n,k,_)=>k≠0/\n.length<=1):=⟨λ⟨hF,hD⟩=>by
 unfold ez
 rw[cJ]
 refine z8 (za trivial λo ho=>zg (λ_=>z8 (zi ⟨xn,V _⟩)) λe => ?_)
 have ho:d.2.2.1.length=f.2.2.2.1.length/\rw.length=f.2.2.2.2.1.length/\d.2.2.2.1.length=f.2.2.2.1.length/\d.2.2.2.2.1.length=f.2.2.2.1.length:=ho (by simpa using e)
 have hPn:Ps d.2.2.2.1:=hD.2.2.2.2.1
 refine za ⟨hF,hD.1,hD.2.1⟩ λ⟨p,n,k,g,b⟩ hz=>zg (λe=>z8 (zi ⟨by simpa using(qG.1 e).1,zT _⟩)) λ_=>zg (λe=>z8 (zi ⟨by simpa using e,V _⟩)) λe => ?_
 obtain⟨hg,I,hgb,zbD,hz⟩:=hz
 obtain⟨hV,h1,M,h3,h4⟩:=hz (by simpa using e)
 dsimp only at hg I hgb zbD
 refine ze (z8 (ze (z8 (z8 (ze (zj ⟨rfl,rfl,rfl⟩ (ze (zj rfl (xl (wj (P:=λz=>∃ c:List Int,z=(rw,d,g,b,(),f,c)/\c.length=b.length) ?_ ?_))))))))))
 ·unfold tO
  refine vS (λz:Int×List Int×X5×List vI×List Int×Unit×Form×List Int=>∃ (i:Int) (c:List Int),z=(i,rw,d,g,b,(),f,c)/\0<=i/\i<=b.length/\(c.length:Int)=i) (λz:Int×List Int×X5×List vI×List Int×Unit×Form×List Int=>((b.length:Int)-z.1).toNat) ⟨0,[],rfl,xn,O,rfl⟩ ?_
  rintro _ ⟨i,c,rfl,i0,i1,hc⟩
  unfold lQ
  refine zg (λJ => ?_) λJ => ?_
  ·have J:=uA J
   have hn:=CE _ _ (0+i.toNat) I (O)
   have hw:qo (i+1)=i+1:=qv (O) (O)
   have Yl:wh b (0+i.toNat) (zb (.int .i64))<rw.length:=by have:=hn.2; have:=ho.2.1; omega
   refine qt ⟨i0,J⟩ (zj ⟨rfl,O⟩ (qt ⟨hn.1,Yl⟩ (zj ⟨rfl,O⟩ (vT (O) (ze (z8 (ze (z8 (z8 (ze (zj (cu1 _ _) (ze (zj (UT _ _).symm (zi ?_))))))))))))))
   rw[hw]
   exact⟨⟨i+1,_,rfl,O,O,by rw[UT]; omega⟩,by simp only; omega⟩
  ·have J:=gm J
   exact z8 (ze (z8 (z8 (ze (ze (ze (z8 (zi ⟨c,rfl,O⟩))))))))
 ·rintro _ ⟨c,rfl,hc⟩
  refine z8 (ze (z8 (z8 (ze (ze (ze (z8 (xl (wj (P:=λz=>∃ (x:List vI) (y q:List Int),z=(rw,d,x,y,(),f,q)/\Bt f x q y) ?_ ?_)))))))))
  ·unfold tP
   have hP3:=ho.2.2.1
   refine vS (λz:Int×List Int×X5×List vI×List Int×Unit×Form×List Int=>∃ (i:Int) (x:List vI) (y q:List Int),z=(i,rw,d,x,y,(),f,q)/\0<=i/\i<=d.2.2.2.1.length/\Bt f x q y/\(x.length:Int)<=64+i) (λz:Int×List Int×X5×List vI×List Int×Unit×Form×List Int=>((d.2.2.2.1.length:Int)-z.1).toNat) ⟨0,_,_,_,rfl,xn,O,⟨hg,O,O,z9U _ _ _ I (O)⟩,O⟩ ?_
   rintro _ ⟨i,x,y,c,rfl,i0,i1,hB,N⟩
   obtain⟨b1,b2,b3,b4⟩:=hB
   unfold lR
   refine zg (λJ => ?_) λJ => ?_
   ·have J:=uA J
    have hp:=I8 d.2.2.2.1 i hPn i0 J
    have hw:qo (i+1)=i+1:=qv (O) (O)
    refine qt ⟨i0,J⟩ (zg (λ_=>z8 (ze (z8 (z8 (ze (ze (ze (z8 (zi ?_))))))))) λ_ => ?_)
    ·rw[hw]
     exact⟨⟨i+1,_,_,_,rfl,O,O,⟨b1,b2,b3,b4⟩,O⟩,by simp only; omega⟩
    ·have q1:i<f.2.2.2.1.length:=O
     have q2:f.2.2.2.1.length<=10000:=O
     have q3:f.2.2.2.2.1.length<=10000:=O
     refine mq (za ⟨hp,⟨b1,O⟩,O,O,i0,q1,q2,q3,b4⟩ λ⟨e,p,q,r⟩ hr=>z8 (ze (z8 (z8 (ze (ze (ze (z8 (zi ?_)))))))))
     obtain⟨⟨r1,r2⟩,r3,⟨r4,r5⟩,r6⟩:=hr
     dsimp only at r1 r2 r3 r4 r5 r6
     subst r6
     rw[hw]
     exact⟨⟨i+1,p,r,q,rfl,O,O,⟨r1,O,O,r5⟩,O⟩,by simp only; omega⟩
   ·exact z8 (ze (z8 (z8 (ze (ze (ze (z8 (zi ⟨x,y,c,rfl,b1,b2,b3,b4⟩))))))))
  ·rintro _ ⟨x,y,q,rfl,hB⟩
   exact z8 (mq (zi ⟨rfl,rfl,rfl,hB⟩))⟩
open T PL
instance (b:List Int) (c:Int):Sp (uH b c) (b.length<=1000000) (λr=>r<b.length):=⟨λh=>by
 unfold uH ym
 refine xl (wj (P:=λz:Unit⊕Int=>z.elim (λ_=>True) λr:Int=>r<(b.length:Int)) ?_ λz hz => ?_)
 ·refine vS (σ:=Int) (λi=>0<=i/\i<=b.length) (λi=>(b.length-i).toNat) ⟨O,O⟩ λi hi => ?_
  unfold yn
  refine zg (λJ => ?_) λJ=>zi trivial
  have J:=uA J
  have hw:qo (i+1)=i+1:=qv (O) (O)
  refine qt ⟨hi.1,J⟩ (zg (λk=>zi J) λk=>zi ?_)
  rw[hw]; exact⟨⟨O,O⟩,O⟩
 ·rcases z with z | z
  ·exact zi (by show(-1:Int)<_; omega)
  ·exact zi hz⟩
abbrev Z12:=Int×List Int×X5×qe×Form×List vI×List Int×List Int×Form×List vI×List Int×List Int
theorem z98{α A:Type}{f:List A}{a b:List vI}{g c h d:List Int}{t:T α}{Q:α->Prop}(k:t.wp Q):(U f (oC f (oC a (oC g (oC c (U a (U g (U c (oC b (oC h (oC d (U b (U h (U d t)))))))))))))).wp Q :=
 z8 (ze (mq (mq k)))
instance (f:Form) (d:qe) (u:Unit) (a1:List Lf.Rat) (a2:List Bool) (a3:List Lf.Rat) (a4:List Int) (a5:List qk) (a6:List Bool):Sp (fS f d u a1 a2 a3 a4 a5 a6) (FW 8200 f/\Dw d/\Dw (a1,a2,a3,a4,a5,a6,())) (λr=>(r.2.2.1=0->Dx f (D8 r))/\r.2.1.length<=1):=⟨λ⟨hF,hD,hE⟩=>by
 unfold fS
 rw[cJ,cJ,cJ,cJ,cJ]
 dsimp only
 refine za ⟨hF,hD⟩ λz hz => ?_
 have hE':Dw (xd (a1,a2,a3,a5,a6,()) a4):=hE
 rcases z with⟨k,a,b,c,e⟩ | ⟨n,m⟩
 ·obtain⟨rfl,rfl,⟨b1,b2,b3,b4⟩,-⟩:=hz
  refine wC rfl (z8 (z8 (z8 (z8 (z8 (ze (z8 (za ⟨hF,hE'⟩ λw hw => ?_))))))))
  rcases w with⟨k,y,v,b',c',e'⟩ | ⟨n,m,x⟩
  ·obtain⟨rfl,rfl,rfl,⟨d1,d2,d3,d4⟩⟩:=hw
   have n1:=b1.1
   have n2:=d1.1
   have n4:y.length<=1000000000:=hE.2.2.2.1
   refine wC rfl (z8 (zj ⟨rfl,rfl,rfl⟩ (mq (mq (xl (wj (P:=λz=>∃ (o:List Int) (w:qe),z=(o,(a1,a2,a3,a5,a6,()),w,v,b,c,e,v,b',c',e')/\ou o/\o.length=y.length) ?_ ?_))))))
   ·unfold Qm
    refine vS (λz:Z12=>∃ (i:Int) (o:List Int) (w:qe),z=(i,o,(a1,a2,a3,a5,a6,()),w,v,b,c,e,v,b',c',e')/\(ou o/\o.length=y.length)/\0<=i/\i<=y.length) (λz:Z12=>((y.length:Int)-z.1).toNat) ⟨0,_,_,rfl,⟨hE.2.2.2.2.2.2,rfl⟩,xn,O⟩ ?_
    rintro _ ⟨i,o,w,rfl,⟨hoo,ho⟩,i0,i1⟩
    unfold nO
    dsimp only
    refine zg (λJ=>z8 ?_) λJ=>z98 (zi ⟨o,w,rfl,hoo,ho⟩)
    have J:=uA J
    have hw:qo (i+1)=i+1:=qv (O) (O)
    rw[cJ]
    refine za (O) λv1 hv1=>z8 ?_
    rw[cJ]
    refine za (O) λv2 EM=>xl (wj (P:=λz=>∃ q:Bool,z=(q,o,(a1,a2,a3,a5,a6,()),w,v,b,c,e,v,b',c',e')) (zg (λ_=>z98 (zi ⟨_,rfl⟩)) λg1=>zg (λ_=>z98 (zi ⟨_,rfl⟩)) λg2 => ?_) ?_)
    ·have g1:=gm g1
     have g2:=gm g2
     refine qt ⟨O,O⟩ (zj ⟨rfl,O⟩ (qt ⟨O,O⟩ (zj ⟨rfl,O⟩ (za ⟨b1.2 _ (Lh (O)),d1.2 _ (Lh (O))⟩ λq _=>z98 (zi ⟨_,rfl⟩)))))
    ·rintro _ ⟨q,rfl⟩
     dsimp only
     refine zg (λ_=>qt ⟨i0,O⟩ (zj ⟨rfl,O⟩ (zj (by rw[List.length_set]) (zj ⟨by rw[List.length_set],rfl,by rw[List.length_set]⟩ (mq (mq (zi ?_))))))) λ_=>z8 (ze (mq (mq (zi ?_))))
     ·rw[hw]
      exact⟨⟨i+1,_,w,rfl,⟨Lv hoo _ (xn),by rw[List.length_set]; exact ho⟩,O,O⟩,by simp only; omega⟩
     ·rw[hw]
      exact⟨⟨i+1,o,w,rfl,⟨hoo,ho⟩,O,O⟩,by simp only; omega⟩
   ·rintro _ ⟨o,w,rfl,hoo,ho⟩
    dsimp only
    rw[cJ]
    exact z8 (za ⟨hF,hE.1,hE.2.1,hE.2.2.1,by show o.length<=_; omega,hE.2.2.2.2.1,hE.2.2.2.2.2.1,hoo⟩ λr hr=>zdq (zi hr))
  ·have hw:m≠0/\n.length<=1:=hw
   exact uz (by simpa using hw.1) (z97 (zi ⟨nz hw.1,hw.2⟩))
 ·have hz:m≠0/\n.length<=1:=hz
  exact uz (by simpa using hz.1) (z97 (zi ⟨nz hz.1,hz.2⟩))⟩
instance (a:Param) (s:zx):Sp (gy a s) True (λ_=>True):=⟨λ_=>by unfold gy; exact zi trivial⟩
instance (a:Switch) (s:zx):Sp (yx a s) True (λ_=>True):=⟨λ_=>by unfold yx; exact zi trivial⟩
theorem D8e{z:List Lf.Rat×Unit}{w:List zx}{x:Int}{h:List Lf.Rat}{i:List Bool}{j:List Int}{k:List qk}{l:List Bool}{Q:qe×List zx×Int->Prop}(hr:Q ((h,i,z.1,j,k,l,()),w,x)):(U h (U i (U j (U k (U l (T.ret ((zQ 0 (zK (0+h.length) h),zQ 0 (zK (0+i.length) i),z.1,zQ 0 (zK (0+j.length) j),zQ 0 (zK (0+k.length) k),zQ 0 (zK (0+l.length) l),()),w,x))))))).wp Q:=by
 rw[cJ,cJ,cJ,cJ,cJ]
 exact z8 (z8 (z8 (z8 (z8 (zi hr)))))
instance (f:Form) (d:qe) (s:zx) (v:Lf.Rat):Sp (ox f d s v) (FW 8200 f/\Dw d/\rg v/\rl v<=1700) (λr=>(r.2.2=0->Dx f r.1)/\r.2.1.length<=1):=⟨λ⟨hF,hD,hv⟩=>by
 unfold ox
 refine za ⟨by have:=hF.2.1.1; omega,λ_ _=>trivial⟩ λi hi=>za ⟨hF,hD⟩ λy hy=>zg (λ_=>zi ⟨nz (a:=1) (xn),V _⟩) λe=>zg (λ_=>zi ⟨nz (a:=5) (xn),V _⟩) λe2=>za hv λz _=>zg (λ_=>zi ⟨nz (a:=8) (xn),zT _⟩) λ_=>za hD λ_ e3=>za ⟨hv.1,E hv.2 (xn)⟩ λn hn => ?_
 subst e3
 have i0:=gm e2
 obtain⟨-,hV,f1,f2,l1,l2,l3,l4,l5,l6⟩:=hy (by simpa using e)
 have US:i<f.2.1.length:=by rcases hi with⟨h,_⟩ | ⟨_,h,_⟩<;>omega
 have Ct:=hn.2.1
 have j1:0<=i/\i<(d.1.length:Int):=O
 have hs:=D5 d.1 (0+i.toNat) n hD.1 hn.1 (O)
 dsimp only
 exact qt j1 (zj ⟨rfl,O⟩ (zj ⟨by rw[List.length_set],rfl,by rw[List.length_set]⟩ (ze (ze (ze (ze (ze (zj (by rw[List.length_set]) (z8 (z8 (z8 (z8 (z8 (za ⟨hF,hD,hs,hD.2⟩ λ⟨z,w,x,h,i,j,k,l⟩ hr=>D8e hr))))))))))))))⟩
instance (f:Form) (d:qe) (s:zx) (v:Bool):Sp (mA f d s v) (FW 8200 f/\Dw d) (λr=>(r.2.2=0->Dx f r.1)/\r.2.1.length<=1):=⟨λ⟨hF,hD⟩=>by
 unfold mA
 refine za ⟨by have:=hF.1.1; omega,λ_ _=>trivial⟩ λi hi=>za ⟨hF,hD⟩ λy hy=>zg (λ_=>zi ⟨nz (a:=1) (xn),V _⟩) λe=>zg (λ_=>zi ⟨nz (a:=5) (xn),V _⟩) λe2=>za hD λ_ e3 => ?_
 subst e3
 have i0:=gm e2
 obtain⟨-,hV,f1,f2,l1,l2,l3,l4,l5,l6⟩:=hy (by simpa using e)
 have US:i<f.1.length:=by rcases hi with⟨h,_⟩ | ⟨_,h,_⟩<;>omega
 have j1:0<=i/\i<(d.2.1.length:Int):=O
 dsimp only
 exact qt j1 (zj ⟨rfl,O⟩ (ze (zj ⟨by rw[List.length_set],rfl,by rw[List.length_set]⟩ (ze (ze (ze (ze (z8 (zj (by rw[List.length_set]) (z8 (z8 (z8 (z8 (za ⟨hF,hD,hD.1,by show(List.set d.2.1 _ v).length<=_; rw[List.length_set]; exact hD.2.1,hD.2.2⟩ λ⟨z,w,x,h,i,j,k,l⟩ hr=>D8e hr))))))))))))))⟩
open T PL
instance (a:Switch) (s:eQ):Sp (yz a s) True (λ_=>True):=⟨λ_=>by unfold yz; exact zi trivial⟩
instance (a:eQ) (s:zx):Sp (dR a s) True (λ_=>True):=⟨λ_=>by unfold dR; exact zi trivial⟩
instance (f:Form) (l:List Bool):Sp (kh f l) (FW 8200 f) (λr=>r.length=f.2.2.1.length):=⟨λhF=>by
 have n1:=hF.1.1
 have n2:=hF.2.2.1.1
 unfold kh Z7
 refine zj ⟨rfl,rfl,rfl⟩ (zj rfl (xl (wj (P:=λz=>z.length=f.2.2.1.length) ?_ λz hz=>z8 (zi (by rw[cJ]; exact hz)))))
 refine vS (σ:=Int×List Bool) (λz=>0<=z.1/\z.1<=f.2.2.1.length/\(z.2.length:Int)=z.1) (λz=>(f.2.2.1.length-z.1).toNat) ⟨xn,O,rfl⟩ ?_
 rintro⟨i,a⟩ ⟨i0,i1,R⟩
 dsimp only at i0 i1 R
 unfold mg
 refine zg (λJ => ?_) λJ=>ze (z8 (zi (by have:=gm J; show a.length=_; omega)))
 have J:=uA J
 have hw:qo (i+1)=i+1:=qv (O) (O)
 have fin:∀ b:Bool,(oA a 1 (oM (a.length+1) (a++[b]).length (T.ret (.inl (qo (i+1),a++[b])):T ((Int×List Bool)⊕List Bool)))).wp λz=>match z with | .inl s'=>(0<=s'.1/\s'.1<=f.2.2.1.length/\(s'.2.length:Int)=s'.1)/\(f.2.2.1.length-s'.1).toNat<(f.2.2.1.length-i).toNat | .inr y=>y.length=f.2.2.1.length:=λb=>by
  refine vT (O) (uo (UT _ _).symm (zi ?_))
  rw[hw]
  exact⟨⟨by show 0<=i+1; omega,by show i+1<=_; omega,by show((a++[b]).length:Int)=i+1; rw[UT]; omega⟩,by simp only; omega⟩
 refine qt ⟨i0,J⟩ (za ⟨O,λ_ _=>trivial⟩ λc _=>zg (λ_=>fin _) λ_=>zg (λh0=>zg (λh1=>qt ⟨uA h0,uA h1⟩ (fin _)) λ_=>fin _) λ_=>fin _)⟩
def pl(i:Int):Prop:=0<=i/\i<=8200
theorem My(l:List Bool)(a:Int)(ha:pl a):∀ n:Nat,n<=8200->pl (nF l a n).1
 | 0,_=>ha
 | n+1,h=>by
  unfold nF
  split
  ·exact⟨by show(0:Int)<=n; omega,by show(n:Int)<=8200; omega⟩
  ·exact My l a ha n (O)
instance (f:Form) (l:List Bool) (a:Int):Sp (pw f l a) (FW 8200 f/\pl a) (λr=>pl r.1):=⟨λ⟨hF,ha⟩=>by
 have n2:=hF.2.2.1.1
 unfold pw
 exact za hF λr hr=>zj (O) (zi (My r a ha _ (O)))⟩
instance (f:Form) (l:List Bool) (a:Int):Sp (pz f l a) (FW 8200 f/\pl a) (λr=>pl r.1):=⟨λ⟨hF,ha⟩=>by
 have n2:=hF.2.2.1.1
 unfold pz Uw
 refine za hF λr hr=>xl (wj (P:=λz:Unit⊕(Int×Bool)=>z.elim (λ_=>True) λr=>pl r.1) ?_ λz hz => ?_)
 ·refine vS (σ:=Int) (λi=>0<=i/\i<=r.length) (λi=>(r.length-i).toNat) ⟨O,O⟩ λi hi => ?_
  unfold ZY
  refine zg (λJ => ?_) λJ=>zi trivial
  have J:=uA J
  have hw:qo (i+1)=i+1:=qv (O) (O)
  refine qt ⟨hi.1,J⟩ (zg (λk=>zi ⟨hi.1,by show i<=8200; omega⟩) λk=>zi ?_)
  rw[hw]; exact⟨⟨O,O⟩,O⟩
 ·rcases z with z | z
  ·exact zi ha
  ·exact zi hz⟩
instance (f:Form) (l:List Bool) (a:Int):Sp (Z6 f l a) (FW 8200 f/\pl a) (λr=>pl r):=⟨λ⟨hF,ha⟩=>by
 unfold Z6
 refine za hF λr hr=>zj (λh0 h1=>⟨uA h0,uA h1⟩) (zg (λ_=>zi ha) λ_=>za ⟨hF,ha⟩ λx N=>zg (λ_=>zi N) λ_=>za ⟨hF,ha⟩ λy hy=>zg (λ_=>zi hy) λ_=>zi ⟨xn,xn⟩)⟩
instance (f:Form) (l:List Bool) (s:zx):Sp (W5 f l s) (FW 8200 f) (λr=>r.2=0->pl r.1):=⟨λhF=>by
 have n2:=hF.2.2.1.1
 unfold W5
 refine za ⟨O,λ_ _=>trivial⟩ λi hi=>zg (λ_=>zi (nz (a:=5) (xn))) λh0=>za hF λr hr => ?_
 have h0:=gm h0
 have h1:i<f.2.2.1.length:=by rcases hi with⟨h,_⟩ | ⟨_,h,_⟩<;>omega
 exact qt ⟨O,O⟩ (zg (λ_=>zi (nz (a:=12) (xn))) λ_=>zi λ_=>⟨by show 0<=i; omega,by show i<=8200; omega⟩)⟩
def sL(l:List zx):Prop:=∀ s∈l,s.length<=1000000000
def Hw(h:uG):Prop:=h.1.length+h.2.1.length<=32/\sL h.1/\sL h.2.1
instance (l:List zx):Sp (wR l) (l.length<=1000) (λr=>r=l):=⟨λh=>by
 unfold wR
 refine zj (λe r h => ?_) (zj ⟨rfl,rfl,rfl,O⟩ (uo (O) (zi rfl)))
 subst e
 exact⟨⟨rfl,rfl,rfl⟩,rfl,h.2.2.2⟩⟩
instance (l:List zx):Sp (wQ l) (l.length<=1000) (λr=>r=l):=⟨λh=>by
 unfold wQ
 dsimp only
 refine zj (λe r h => ?_) (zj ⟨rfl,rfl,rfl,O⟩ (zj rfl (zi (by rw[Nat.zero_add]; exact cJ l))))
 subst e
 exact h.2.2⟩
instance (h:uG) (s:zx):Sp (XP h s) (Hw h/\s.length<=1000000000) (λr=>Hw r/\r.1.length=min 32 (h.1.length+1)/\r.2.1.length=0):=⟨λ⟨⟨h1,M,h3⟩,hs⟩=>by
 unfold XP
 refine za (O) λc hc => ?_
 subst hc
 dsimp only
 have R:∀ n:Nat,n<=33->∃ k:Nat,lh 0 (qo ((n:Int)-32))=k/\k<=n/\n-k=min 32 n:=λn hn=>by
  rw[qv (O) (O)]
  unfold lh
  split
  ·exact⟨n-32,O,O,O⟩
  ·exact⟨0,O,O,O⟩
 obtain⟨k,k1,k2,k3⟩:=R (h.1.length+1) (O)
 rw[k1]
 refine vT (O) (zj ⟨O,O,O⟩ (zj rfl (zi ⟨⟨?_,λx N => ?_,nofun⟩,?_,rfl⟩)))
 ·show(zQ _ (zK _ _)).length+0<=32
  rw[List.length_drop,zH]
  omega
 ·rcases zG.1 (zF (List.mem_of_mem_drop N))with q | q
  ·exact M x q
  ·rw[zE.1 q]; exact hs
 ·show(zQ _ (zK _ _)).length=_
  rw[List.length_drop,zH,UT]
  omega⟩
instance (b f:List zx) (s:zx):Sp (tX b f s) (1<=b.length/\b.length+f.length<=32/\sL b/\sL f/\s.length<=1000000000) (λr=>r.1.length+1=b.length/\r.2.1.length=f.length+1/\sL r.1/\sL r.2.1/\r.2.2.length<=1000000000):=⟨λ⟨h0,h1,M,h3,h4⟩=>by
 have hw:qo ((b.length:Int)-1)=((b.length-1:Nat):Int):=by rw[qv (O) (O)]; omega
 unfold tX
 rw[hw]
 have hc:(jI (e:=.str) 0 ((b.length-1:Nat):Int) b)=b.take (b.length-1):=rfl
 have R:(b.take (b.length-1)).length=b.length-1:=by rw[zH]; omega
 refine zj ⟨xn,O,O⟩ (za (by rw[hc]; omega) λx N=>za (O) λy hy => ?_)
 subst N hy
 refine vT (O) (qt ⟨O,O⟩ (z8 (zj rfl (zi ?_))))
 rw[cJ,hc]
 have e2:zQ 0 (zK (0+(y.length+1)) (y++[s]))=y++[s]:=by rw[<- UT y s]; exact cJ _
 rw[e2]
 refine⟨by show(b.take _).length+1=_; omega,UT _ _,λx N=>M x (zF N),yT h3 h4,M _ (xx (O) (O))⟩⟩
instance (h:uG) (s:zx):Sp (tW h s) (Hw h/\s.length<=1000000000) (λr=>(Hw r.1/\r.2.1.length<=1000000000)/\(r.2.2=true->r.1.1.length+1=h.1.length/\r.1.2.1.length=h.2.1.length+1)):=⟨λ⟨⟨h1,M,h3⟩,hs⟩=>by
 unfold tW
 refine zg (λ_=>za (O) λx N=>za (O) λy hy=>zi ?_) λe=>za ⟨by have:=beq_eq_false_iff_ne.1 e; omega,h1,M,h3,hs⟩ λz hz=>zi ?_
 ·subst N hy; exact⟨⟨⟨h1,M,h3⟩,V _⟩,nofun⟩
 ·exact⟨⟨⟨by show z.1.length+z.2.1.length<=32; omega,hz.2.2.1,hz.2.2.2.1⟩,hz.2.2.2.2⟩,λ_=>⟨hz.1,hz.2.1⟩⟩⟩
instance (h:uG) (s:zx):Sp (tV h s) (Hw h/\s.length<=1000000000) (λr=>(Hw r.1/\r.2.1.length<=1000000000)/\(r.2.2=true->r.1.1.length=h.1.length+1/\r.1.2.1.length+1=h.2.1.length)):=⟨λ⟨⟨h1,M,h3⟩,hs⟩=>by
 unfold tV
 refine zg (λ_=>za (O) λx N=>za (O) λy hy=>zi ?_) λe=>za ⟨by have:=beq_eq_false_iff_ne.1 e; omega,O,h3,M,hs⟩ λz hz=>zi ?_
 ·subst N hy; exact⟨⟨⟨h1,M,h3⟩,V _⟩,nofun⟩
 ·exact⟨⟨⟨by show z.2.1.length+z.1.length<=32; omega,hz.2.2.2.1,hz.2.2.1⟩,hz.2.2.2.2⟩,λ_=>⟨hz.2.1,hz.1⟩⟩⟩
end Go.AM.Lf
