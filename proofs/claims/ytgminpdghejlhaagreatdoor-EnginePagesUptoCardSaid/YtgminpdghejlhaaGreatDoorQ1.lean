/-
  Plain laws of the lifted program, part 1.
-/
import Derived.Test.YtgminpdghejlhaaGreatDoorLf1
import Derived.Test.YtgminpdghejlhaaGreatDoorAmA
import Derived.Test.YtgminpdghejlhaaGreatDoorAmD
import Derived.KernelRfl
import Derived.Test.YtgminpdghejlhaaGreatDoorQ0
set_option linter.unusedVariables false
open List renaming getD_eq_getElem?_getD -> zA, mem_cons_of_mem -> I, mem_singleton -> W, mem_cons_self -> zE, take_of_length_le -> zF, mem_append -> zG, getElem?_eq_getElem -> zH, mem_cons -> zI, mem_or_eq_of_mem_set -> zJ, append_nil -> zK, getElem_append_left -> zM, getElem_mem -> zN, mem_of_mem_take -> zP, map_append -> zR, contains_eq_mem -> zV, eq_nil_of_length_eq_zero -> zW, take_append_of_le_length -> zX, getElem_of_mem -> zY, drop_eq_getElem_cons -> zZ, pairwise_iff_getElem -> qA, append_assoc -> qB, length -> qC, getElem_set -> qE, drop_of_length_le -> qG, countP_le_length -> qH, mem_append_right -> qI, mem_append_left -> qK, replicate -> qL
open Int renaming eq_ofNat_of_zero_le -> Y, toNat_natCast -> zL, le_trans -> zO, le_of_lt -> qF, le_refl -> qJ, toNat -> qN
open Bool renaming and_eq_true -> zQ, and_eq_true_iff -> zU
open Nat renaming le_refl -> zS, zero_le -> qD, le_trans -> qO
open SizeOf renaming sizeOf -> zT
open And renaming intro -> qM
open Go.AM.T (VT bB mS qq sR uH ug vG vX vY vq vy wk xe xf xv xz z8 za zc ze zf zj)
namespace Go.AM.Lf
open T PL
theorem _root_.Go.AM.EO.uniq{m:Nat}{e:Expr}(h:EO m e):∀ {n:Nat},EO n e->m=n:=by
 induction h with
 | num=>intro n h; cases h; rfl
 | nam=>intro n h; cases h; rfl
 | neg _ ih =>
  intro n h
  cases h with
  | neg h=>rw[ih h]
 | bin a b _ _ ih jh =>
  intro n h
  cases h with
  | bin _ _ h k=>rw[ih h,jh k]
theorem _root_.Go.AM.EO.ks{n:Nat}{e:Expr}(h:EO n e):(∀ x∈e.kids,∃ k,EO k x)/\(∀ m,WS m e.kids->m+1=n)/\e.kids.length<=2/\(e.kind=2->nL e.name):=by
 cases h with
 | num=>exact⟨nofun,λm h=>by rw[WS.n0 h],by simp[Expr.kids],λh=>by simp[Expr.kind]at h⟩
 | nam h=>exact⟨nofun,λm h=>by rw[WS.n0 h],by simp[Expr.kids],λ_=>h⟩
 | neg h =>
  refine⟨λx U=>⟨_,W.1 U▸h⟩,λm hm => ?_,by simp[Expr.kids],λh=>by simp[Expr.kind]at h⟩
  obtain⟨i,j,rfl,h1,X⟩:=hm.inv [] _ rfl
  rw[h1.n0,X.uniq h]; omega
 | bin h1 X h3 h4 =>
  refine⟨λx U => ?_,λm hm => ?_,by simp[Expr.kids],λh=>by simp[Expr.kind]at h; omega⟩
  ·rcases zI.1 U with rfl | U
   ·exact⟨_,h3⟩
   ·exact⟨_,W.1 U▸h4⟩
  ·obtain⟨i,j,rfl,g1,g2⟩:=hm.inv [_] _ rfl
   obtain⟨i',j',rfl,g3,g4⟩:=g1.inv [] _ rfl
   rw[g3.n0,g2.uniq h4,g4.uniq h3]; omega
theorem _root_.Go.AM.WS.ex{l:List Expr}(h:∀ x∈l,∃ k,EO k x):∃ m,WS m l:=by
 have:∀ n,n<=l.length->∃ m,WS m (l.take n):=by
  intro n
  induction n with
  | zero=>exact λ_=>⟨0,by simpa using WS.nil⟩
  | succ n ih =>
   intro hn
   obtain⟨m,hm⟩:=ih (Z)
   obtain⟨k,hk⟩:=h l[n] (zN (Z))
   rw[List.take_succ_eq_append_getElem (Z)]
   exact⟨_,.snoc hm hk⟩
 simpa using this l.length (zS _)
theorem _root_.Go.AM.WS.uniq{m:Nat}{l:List Expr}(h:WS m l):∀ {n:Nat},WS n l->m=n:=by
 induction h with
 | nil=>intro n h; exact h.n0.symm
 | snoc _ h1 ih =>
  intro n h
  obtain⟨i,j,rfl,g1,g2⟩:=h.inv _ _ rfl
  rw[ih g1,h1.uniq g2]
theorem _root_.Go.AM.WS.le{m:Nat}{l:List Expr}(h:WS m l):∀ i,∃ k,WS k (l.take i)/\k<=m:=by
 induction h with
 | nil=>intro i; exact⟨0,by simpa using WS.nil,zS _⟩
 | @snoc m n l a h h1 ih =>
  intro i
  by_cases e:i<=l.length
  ·obtain⟨k,hk,hle⟩:=ih i
   rw[zX e]
   exact⟨k,hk,Z⟩
  ·rw[zF (by simp; omega)]
   exact⟨_,.snoc h h1,zS _⟩
theorem zac{σ ρ:Type}(l:List Expr)(ix:σ->Int)(hb:Nat->σ->Prop){M:Nat}(hM:WS M l)(hA:∀ x∈l,∃ k,EO k x){r:σ->T (σ⊕ρ)}{Q:ρ->Prop}{s:σ}(hs:ix s=0/\hb 0 s)
  (step:∀ m k s x,hb m s->EO k x->x∈l->m+k<=M->nth l (ix s) (zb .expr)=x->0<=ix s->ix s<l.length->(r s).wp λz=>match z with | .inl s'=>ix s'=ix s+1/\hb (m+k) s' | .inr y=>Q y)
  (done:∀ s,hb M s->ix s=l.length->(r s).wp λz=>match z with | .inl _=>False | .inr y=>Q y):(T.loop r s).wp Q:=by
 refine cK l (zb .expr) ix (λx=>x∈l) (λ_=>True) (λs=>0<=ix s/\∃ m,hb m s/\WS m (l.take (ix s).toNat)) (λ_ h=>h) ⟨hs.1,Z,0,hs.2,by rw[hs.1]; exact .nil⟩ (λs x ⟨h0,m,h1,X⟩ U he _ B => ?_) λs ⟨h0,m,h1,X⟩ he _ => ?_
 ·obtain⟨k,hk⟩:=hA x U
  have h3:=WS.snoc X hk
  rw[<- he,<- cU l _ (zb .expr) h0 B]at h3
  obtain⟨k',Yb,hle⟩:=hM.le (ix s+1).toNat
  have:=h3.uniq Yb
  refine xv (step m k s x h1 hk U (Z) he h0 B) λz hz => ?_
  cases z with
  | inl s'=>exact⟨hz.1,⟨Z,_,hz.2,by rw[hz.1]; exact h3⟩,trivial⟩
  | inr y=>exact hz
 ·rw[he,zL,List.take_length]at X
  exact done s (X.uniq hM▸h1) he
theorem O0{e x:Expr}(h:x∈e.kids):zT x<zT e:=by
 cases e
 have:=List.sizeOf_lt_of_mem h
 simp only[Expr.kids]at this
 simp; omega
instance (e:Expr) (a:List zo):Sp (pn e a) (EK e/\ss a/\a.length<=100000) (λr=>ss r/\r.length<=a.length+256):=⟨λh=>by
 obtain⟨⟨n,hn,he⟩,h⟩:=h
 unfold pn
 refine xv (P:=λr=>∀ n,EO n e->ss r/\r.length<=a.length+n) ?_ λr hr=>⟨(hr n he).1,by have:=(hr n he).2; omega⟩
 refine sR (x:=(e,a)) (λ(e,a)=>(∃ n,EO n e/\a.length+n<=200000)/\ss a) (λ(e,_)=>zT e) (λ(e,a) r=>∀ n,EO n e->ss r/\r.length<=a.length+n) ?_ ?_ ⟨⟨n,he,Z⟩,h.1⟩
 ·intro g g' hg x
  unfold dI cM fg
  exact mono
 ·intro⟨e,a⟩ ⟨⟨n,he,hn⟩,h1⟩ g hg
  obtain⟨k1,k2,k3,k4⟩:=he.ks
  obtain⟨M,hM⟩:=WS.ex k1
  have k2:=k2 M hM
  have B:∀ d:List zo,ss d/\d.length<=a.length+1->(cM (λy0 y1=>g (y0,y1)) e.kids (Nat.cast e.kids.length:Int) (0,d)).wp λr=>ss r/\r.length<=a.length+n:=λd V=>by
   unfold cM fg
   refine zac e.kids (λ(i,_)=>i) (λm (_,c)=>ss c/\c.length<=a.length+1+m) hM k1 ⟨rfl,V⟩ (λm k ⟨i,c⟩ x hj hk U hle hxe h0 wO => ?_) λ⟨i,c⟩ hj hi => ?_
   ·dsimp only at h0 wO hxe
    refine zf (λ_=>qq ⟨h0,wO⟩ (zc (z8 (xf (xv (hg (nth e.kids i (zb .expr),c) ⟨⟨k,hxe▸hk,by have:=hj.2; omega⟩,hj.1⟩ (O0 (hxe▸U))) λr hr=>zc (z8 (ze ?_))))))) λhf=>absurd wO (hZ hf)
    have:=hr k (hxe▸hk)
    exact⟨qv (Z) (Z),this.1,by have:=hj.2; omega⟩
   ·dsimp only at hi
    refine zf (λht=>absurd (uY ht) (Z)) λ_=>zc (z8 (ze ⟨hj.1,by have:=hj.2; omega⟩))
  have hs:∀ d:List zo,Sp (cM (λy0 y1=>g (y0,y1)) e.kids (Nat.cast e.kids.length:Int) (0,d)) (ss d/\d.length<=a.length+1) (λr=>ss r/\r.length<=a.length+n):=λd=>⟨B d⟩
  have hq:∀ n',EO n' e->n'=n:=λn' h=>h.uniq he
  have k5:e.kind=2->e.name.length<=KK:=λh=>by have:=k4 h; unfold KK; omega
  clear hg B hM k1 k4
  unfold dI
  exact Fe⟩
instance (l:List Expr) (s:Int×List zo):Sp (mD l (l.length:Int) s) (s.1=0/\l.length<=2/\(∀ x∈l,EK x)/\ss s.2/\s.2.length<=50000) (λr=>ss r/\r.length<=s.2.length+512):=⟨λh=>by
 unfold mD mE
 exact rI l (zb .expr) (λ(i,_)=>i) _ (λ_=>True) (λ(i,c)=>0<=i/\i<=2/\ss c/\(c.length:Int)<=s.2.length+256*i) h.2.2.1⟩
theorem EK.ks{e:Expr}(h:EK e):(∀ x∈e.kids,EK x)/\e.kids.length<=2/\(e.kind=2->e.name.length<=KK):=by
 obtain⟨n,hn,he⟩:=h
 obtain⟨k1,k2,k3,k4⟩:=he.ks
 obtain⟨M,hM⟩:=WS.ex k1
 refine⟨λx U => ?_,k3,λh=>by have:=k4 h; unfold KK; omega⟩
 obtain⟨k,hk⟩:=k1 x U
 have:=k2 M hM
 obtain⟨i,h0,h1,rfl⟩:=UG (d:=zb .expr) U
 obtain⟨a,ha,ha'⟩:=hM.le i.toNat
 obtain⟨b,J,KN⟩:=hM.le (i+1).toNat
 rw[cU _ _ (zb .expr) h0 h1]at J
 have:=J.uniq (.snoc ha hk)
 exact⟨k,Z,hk⟩
instance (e:Expr) (a:List zo):Sp (nj e a) (EK e/\ss a/\a.length<=10000) (λr=>ss r/\r.length<=a.length+600):=⟨λh=>by
 obtain⟨k1,k2,k3⟩:=EK.ks h.1
 unfold nj
 exact Fe⟩
instance (e:Expr):Sp (dH e) (EK e) (λr=>ss r/\r.length<=600):=⟨λh=>by unfold dH oZ; exact Fe⟩
instance (s:zo) (l:List zo):Sp (cz s l) (l.length<=1000000) (λ_=>True):=⟨λh=>by unfold cz; exact Fe⟩
instance (e:Expr) (l:List zo):Sp (Z7 e l) (EK e/\l.length<=1000000) (λ_=>True):=⟨λh=>by unfold Z7; exact Fe⟩
instance (e:Expr) (l:List zo):Sp (iB e l) (EK e/\l.length<=1000000) (λ_=>True):=⟨λh=>by
 unfold iB
 refine sR (x:=(e,l)) (λ(e,l)=>EK e/\l.length<=1000000) (λ(e,_)=>zT e) (λ_ _=>True) ?_ ?_ h
 ·intro g g' hg x
  unfold dA ji bu du yD j6
  exact mono
 ·intro⟨e,l⟩ ⟨he,B⟩ g hg
  obtain⟨k1,k2,k3⟩:=EK.ks he
  have hn:e.kids.length=2->EK (nth e.kids 0 (zb .expr))/\EK (nth e.kids 1 (zb .expr)):=λh=>⟨k1 _ (xo (Z) (Z)),k1 _ (xo (Z) (Z))⟩
  have hc:∀ x,Sp (j6 (λy0 y1=>g (y0,y1)) x l) (x∈e.kids) (λ_=>True):=λx=>⟨λU=>xf (xv (hg (x,l) ⟨k1 x U,B⟩ (O0 U)) λ_ _=>ze trivial)⟩
  have hs:Sp (ji (λy0 y1=>g (y0,y1)) e.kids λx=>j6 (λy0 y1=>g (y0,y1)) x l) True (λ_=>True):=⟨λ_=>xv (cnq (ixq (d0:=zb .expr) (l:=e.kids) (c:=λx=>j6 (λy0 y1=>g (y0,y1)) x l) ⟨Z,λ_ h=>h⟩)) λ_ _=>trivial⟩
  clear hg k1 hc
  unfold dA
  exact Fe⟩
instance (a:Param) (s:zo):Sp (uI a s) True (λ_=>True):=⟨λ_=>by unfold uI; exact Fe⟩
instance (s:zo) (l:List zo) (f:Form):Sp (yQ s l f) (f.2.1.length<=8200/\l.length<=1000000) (λ_=>True):=⟨λh=>by unfold yQ; exact Fe⟩
instance (a b c:List zo):Sp (jf [a,b,c]) (a.length+b.length+c.length<=1000000000/\ss a/\ss b/\ss c) (λr=>ss r/\r.length=a.length+b.length+c.length):=⟨λh=>by
 unfold jf
 refine zj ⟨qu,by simp; omega,qu⟩ (ze ⟨λx U => ?_,by simp; omega⟩)
 simp at U
 rcases U with k | k | k
 ·exact h.2.1 x k
 ·exact h.2.2.1 x k
 ·exact h.2.2.2 x k⟩
instance (f:Form) (d:List zo) (s:List zo×Int):Sp (mn f d f.2.2.2.2.2.1 (f.2.2.2.2.2.1.length:Int) s) (s.2=0/\f.2.2.2.2.2.1.length<=8200/\(∀ x∈f.2.2.2.2.2.1,EK x.2.2.2.1/\EK x.2.2.2.2.1)/\ss s.1/\s.1.length<=10) (λr=>ss r/\r.length<=20000000):=⟨λh=>by
 unfold mn mq
 exact rI f.2.2.2.2.2.1 (zb xk) (λ(_,i)=>i) _ (λ_=>True) (λ(c,i)=>0<=i/\i<=8200/\ss c/\(c.length:Int)<=s.1.length+1200*i) h.2.2.1⟩
instance (f:Form) (d:List zo) (s:List zo×Int):Sp (mo f d f.2.2.2.2.1 (f.2.2.2.2.1.length:Int) s) (s.2=0/\f.2.2.2.2.1.length<=8200/\(∀ x∈f.2.2.2.2.1,EK x.2.2.2.1/\EK x.2.2.2.2.1)/\ss s.1/\s.1.length<=20000000) (λr=>ss r/\r.length<=40000000):=⟨λh=>by
 unfold mo mr
 exact rI f.2.2.2.2.1 (zb xn) (λ(_,i)=>i) _ (λ_=>True) (λ(c,i)=>0<=i/\i<=8200/\ss c/\(c.length:Int)<=s.1.length+1200*i) h.2.2.1⟩
theorem FV.fe{f:Form}(h:FV f):(f.2.1.length<=8200/\f.2.2.2.1.length<=8200/\f.2.2.2.2.1.length<=8200/\f.2.2.2.2.2.1.length<=8200)/\(∀ x∈f.2.2.2.2.1,EK x.2.2.2.1/\EK x.2.2.2.2.1)/\(∀ x∈f.2.2.2.2.2.1,EK x.2.2.2.1/\EK x.2.2.2.2.1)/\(∀ x∈f.2.2.2.1,x.1.length<=KK):=by
 obtain⟨⟨_,⟨a2,_⟩,_,⟨a4,b4⟩,⟨a5,_⟩,a6,_⟩,_,_,_,_,c5,c6⟩:=h
 exact⟨⟨a2,a4,a5,a6⟩,λx U=>(c5 x U).2.2.2.2,λx U=>(c6 x U).2.2.2,b4⟩
instance (f:Form) (d:List zo):Sp (mU f d) (FV f/\d.length<=1000000) (λ_=>True):=⟨λh=>by
 obtain⟨h1,X,h3,_⟩:=FV.fe h.1
 unfold mU
 exact Fe⟩
instance (l:List cx) (s:Int×List zo):Sp (oa l (l.length:Int) s) (s.1=0/\l.length<=8200/\(∀ x∈l,EK x.2.2.2.1/\EK x.2.2.2.2.1)/\s.2.length<=100000) (λr=>match r with | .inl _=>True | .inr z=>z.1≠0):=⟨λh=>by
 unfold oa od
 exact rI l (zb xn) (λ(i,_)=>i) _ (λ_=>True) (λ(i,c)=>0<=i/\i<=8200/\c.length<=100000) h.2.2.1⟩
instance (f:Form):Sp (iC f) (FW 8200 f) (λr=>r.1=0->FV f/\f.2.2.2.1.length<=64/\f.2.2.2.2.1.length<=64):=⟨λh=>by
 have h1:FV f->_:=FV.fe
 unfold iC oZ
 exact Fe⟩
open T PL
instance (a:Int):Sp (yN a) True (λ_=>True):=⟨λ_=>by unfold yN; exact lR⟩
instance (a:Int):Sp (yy a) True (λ_=>True):=⟨λ_=>by unfold yy jt; exact lR⟩
instance (f:Form):Sp (nV f) (FW 8200 f) (λ_=>True):=⟨λh=>by unfold nV; exact goq⟩
def PI(p:zd):Prop:=p.1.length<=1000000/\0<=p.2.1/\p.2.1<=p.1.length/\0<=p.2.2.1/\p.2.2.1<=31
def PG(p q:zd):Prop:=PI q/\q.1=p.1/\p.2.1<=q.2.1/\q.2.2.1=p.2.2.1
theorem Wg(l:zo)(c:UInt8) : -1<=Uy l c/\Uy l c<l.length:=by
 induction l with
 | nil=>simp[Uy]
 | cons b l ih=>unfold Uy; rw[List.length_cons]; split; omega; split<;>omega
theorem EW0:EW KK (Expr.mk 0 (false,[],[],()) [] []):=.mk ⟨vL,vL⟩ (by simp[rl]) (qu) (qu) nofun
theorem EWn(n:Lf.Rat)(h:rg n/\rl n<=1700):EW KK (Expr.mk 1 n [] []):=.mk h.1 (by unfold KK; omega) (qu) (qu) nofun
theorem EWz:EW KK (Expr.mk 1 (false,[],[],()) [] []):=.mk ⟨vL,vL⟩ (by simp[rl]) (qu) (qu) nofun
theorem EWs(s:zo)(h:s.length<=KK):EW KK (Expr.mk 2 (false,[],[],()) s []):=.mk ⟨vL,vL⟩ (by simp[rl]) h (qu) nofun
theorem EW1(k:Int)(a:Expr)(h:EW KK a):EW KK (Expr.mk k (false,[],[],()) [] [a]):=.mk ⟨vL,vL⟩ (by simp[rl]) (qu) (by unfold KK; simp) (by simpa using h)
theorem EW2(k:Int)(a b:Expr)(h:EW KK a)(g:EW KK b):EW KK (Expr.mk k (false,[],[],()) [] [a,b]):=.mk ⟨vL,vL⟩ (by simp[rl]) (qu) (by unfold KK; simp) (by simpa using⟨h,g⟩)
theorem gop{p:Prop} (h:p:=by
 intros
 repeat' (with_reducible first
  | refine ze ?_
  | refine zf (λ_ => ?_) (λ_ => ?_)
  | refine z8 ?_
  | refine zc ?_
  | refine uH ?_ ?_
  | refine qq ?_ ?_
  | refine vX ?_ ?_
  | refine vq ?_ ?_
  | refine zj ?_ ?_
  | refine vY (λ_ _ => ?_) (λ_ _ => ?_)
  | refine za ?_ (λ_ _ => ?_)
  | refine vG ?_ (λ_ _ => ?_)
  | refine xf ?_
  | dsimp only)
 all_goals grind [xb,uT,eY,jJ,ja,WL,Vj,dO,SV,PI,PG,Wg,EW0,EWn,EWs,EW1,EW2,EWz]):p:=h
theorem lpp{σ ρ:Type}{r:σ->T (σ⊕ρ)}{Q:ρ->Prop}(zC:σ->Prop)(μ:σ->Nat){s:σ}(hs:zC s:=by grind [PI,PG])
  (h:∀ s,zC s->(r s).wp λz=>match z with | .inl s'=>zC s'/\μ s'<μ s | .inr y=>Q y:=by
 intros
 repeat' (with_reducible first
  | refine ze ?_
  | refine zf (λ_ => ?_) (λ_ => ?_)
  | refine z8 ?_
  | refine zc ?_
  | refine uH ?_ ?_
  | refine qq ?_ ?_
  | refine vX ?_ ?_
  | refine vq ?_ ?_
  | refine zj ?_ ?_
  | refine vY (λ_ _ => ?_) (λ_ _ => ?_)
  | refine za ?_ (λ_ _ => ?_)
  | refine vG ?_ (λ_ _ => ?_)
  | refine xf ?_
  | dsimp only)
 all_goals grind [xb,uT,eY,jJ,ja,WL,Vj,dO,SV,PI,PG,Wg,EW0,EWn,EWs,EW1,EW2,EWz]):(T.loop r s).wp Q:=ug zC μ hs h
instance (p:zd):Sp (bP p) (PI p) (PG p):=⟨λh=>by
 unfold bP bQ
 exact lpp (PG p) (λq=>(q.1.length-q.2.1).toNat)⟩
instance (e:zo) (p:zd):Sp (uJ e p) (PI p) (λr=>PG p r.2/\(r.1=0\/(0<=Uy e (byteOf r.1)/\p.2.1<r.2.2.1))):=⟨λh=>by
 have e1:∀ x:Int,-1000000000<=x->x<=1000000000->ql (ql (x+1)-1)=x:=λx h0 h1=>by rw[qv (x:=x+1) (Z) (Z),qv (Z) (Z)]; omega
 unfold uJ dJ strings_IndexByte
 exact gop⟩
instance (p:zd):Sp (kK p) (PI p) (λr=>match r with | .inl q=>PI q/\q.1=p.1/\q.2.1=p.2.1/\q.2.2.1=p.2.2.1+1 | .inr z=>z.1.1≠0):=⟨λh=>by
 unfold kK vp
 exact gop⟩
instance (c:Int->T Bool) [∀ x,Sp (c x) True (λ_=>True)] (m f:Int) (p:zd):Sp (cD c m f p) (PI p) (PG p):=⟨λh=>by
 unfold cD yz
 exact lpp (PG p) (λq=>(q.1.length-q.2.1).toNat)⟩
instance (c:Int->T Bool) [∀ x,Sp (c x) True (λ_=>True)] (m:Int) (p:zd):Sp (uK c m p) (PI p) (λr=>PG p r.2/\r.1.length<=1000000):=⟨λh=>by
 unfold uK
 exact gop⟩
instance (a:Int):Sp (jt a) True (λ_=>True):=⟨λ_=>by unfold jt; exact gop⟩
def PR(p:zd)(r:(Expr×zd)⊕(xh×zd)):Prop:=match r with | .inl z=>EW KK z.1/\PG p z.2 | .inr z=>z.1.1≠0
instance (p:zd):Sp (kJ p) (PI p) (PR p):=⟨λh=>by
 unfold kJ vp PR
 exact gop⟩
def PQ(p:zd)(r:(Expr×zd)⊕(xh×zd)):Prop:=(∀ z,r=.inl z->EW KK z.1/\PG p z.2)/\∀ z,r=.inr z->z.1.1≠0
theorem zfl{p:zd}{r:(Expr×zd)⊕(xh×zd)}(h:PR p r):PQ p r:=⟨λz e=>by subst e; exact h,λz e=>by subst e; exact h⟩
theorem zns{p:Prop} (h:p:=by
 intros
 repeat' (with_reducible first
  | refine ze ?_
  | refine zf (λ_ => ?_) (λ_ => ?_)
  | refine z8 ?_
  | refine zc ?_
  | refine uH ?_ ?_
  | refine qq ?_ ?_
  | refine vX ?_ ?_
  | refine vq ?_ ?_
  | refine zj ?_ ?_
  | refine vY (λ_ _ => ?_) (λ_ _ => ?_)
  | refine za ?_ (λ_ _ => ?_)
  | refine vG ?_ (λ_ _ => ?_)
  | refine xf ?_
  | dsimp only)
 all_goals grind [xb,uT,eY,jJ,ja,PI,PG,PQ,Wg,EW0,EWn,EWs,EW1,EW2,EWz]):p:=h
theorem Sq{g:zd->T ((Expr×zd)⊕(xh×zd))}{a0:Int}{s:zo}(hg:∀ y,PI y/\a0<y.2.1/\y.1=s->(g y).wp (PQ y))(p:zd)(hp:PI p/\a0<=p.2.1/\p.1=s):(vI g p).wp (PQ p):=by
 unfold vI
 refine sR (x:=p) (λp=>PI p/\a0<=p.2.1/\p.1=s) (λp=>(p.1.length-p.2.1).toNat) (λp r=>PQ p r) ?_ ?_ hp
 ·intro F F' hF x
  unfold uB
  exact mono
 ·intro p hp F hF
  have h1:∀ y,Sp (F y) ((PI y/\a0<=y.2.1/\y.1=s)/\(y.1.length-y.2.1).toNat<(p.1.length-p.2.1).toNat) (PQ y):=λy=>⟨λh=>hF y h.1 h.2⟩
  have X:∀ y,Sp (g y) (PI y/\a0<y.2.1/\y.1=s) (PQ y):=λy=>⟨hg y⟩
  have h3:∀ p,Sp (kJ p) (PI p) (PQ p):=λp=>⟨λh=>xv (Sp.sp h) λ_=>zfl⟩
  clear hF hg
  unfold uB vp
  exact zns
open T PL
section
variable {g:zd->T ((Expr×zd)⊕(xh×zd))} {a0:Int} {s:zo}
theorem zi6(a b:UInt8):([a,b]:zo).length=2:=rfl
theorem LJ{p:Prop} (h:p:=by
 intros
 repeat' (with_reducible first
  | refine ze ?_
  | refine zf (λ_ => ?_) (λ_ => ?_)
  | refine z8 ?_
  | refine zc ?_
  | refine uH ?_ ?_
  | refine qq ?_ ?_
  | refine vX ?_ ?_
  | refine vq ?_ ?_
  | refine zj ?_ ?_
  | refine vY (λ_ _ => ?_) (λ_ _ => ?_)
  | refine za ?_ (λ_ _ => ?_)
  | refine vG ?_ (λ_ _ => ?_)
  | refine xf ?_
  | dsimp only)
 all_goals grind [xb,PG,PQ,PI,Wg,EW0,EW2,zi6]):p:=h
theorem z9S{e:zo}(he:e.length=2)(k:xh)(hk:∀ y,PI y/\a0<=y.2.1/\y.1=s->(vI g y).wp (PQ y))(p:zd)(hp:PI p/\a0<=p.2.1/\p.1=s):(wy g () e k p).wp (PQ p):=by
 have h1:∀ y,Sp (vI g y) (PI y/\a0<=y.2.1/\y.1=s) (PQ y):=λy=>⟨hk y⟩
 clear hk
 have h5:∀ c,Uy e c<2:=λc=>by have:=(Wg e c).2; omega
 have X:∀ z,Sp (ve g e k z) (PG p z.1/\EW KK z.2.2) (λr=>(∀ z,r=.inl z->EW KK z.2.1/\PG p z.1)/\∀ z,r=.inr z->z.1.1≠0):=λz=>⟨λh=>by
  unfold ve
  refine ug (λ(q,_,x)=>PG p q/\EW KK x) (λ(q,_,_)=>(q.1.length-q.2.1).toNat) h ?_
  unfold vf strings_IndexByte xb
  exact LJ⟩
 unfold wy
 exact LJ
theorem ME(hg:∀ y,PI y/\a0<y.2.1/\y.1=s->(g y).wp (PQ y))(p:zd)(hp:PI p/\a0<=p.2.1/\p.1=s):(vw g p).wp (PQ p):=by
 have h1:∀ e:zo,e.length=2->∀ k,Sp (wy g () e k p) True (PQ p):=λe he k=>⟨λ_=>z9S he k (Sq hg) p hp⟩
 have X:=h1 [42,47] rfl
 clear h1 hg
 unfold vw
 exact LJ
theorem z9T{e:zo}(he:e.length=2)(k:xh)(hk:∀ y,PI y/\a0<=y.2.1/\y.1=s->(vw g y).wp (PQ y))(p:zd)(hp:PI p/\a0<=p.2.1/\p.1=s):(wu g () e k p).wp (PQ p):=by
 have h1:∀ y,Sp (vw g y) (PI y/\a0<=y.2.1/\y.1=s) (PQ y):=λy=>⟨hk y⟩
 clear hk
 have h5:∀ c,Uy e c<2:=λc=>by have:=(Wg e c).2; omega
 have X:∀ z,Sp (wY g e k z) (PG p z.1/\EW KK z.2.2) (λr=>(∀ z,r=.inl z->EW KK z.2.1/\PG p z.1)/\∀ z,r=.inr z->z.1.1≠0):=λz=>⟨λh=>by
  unfold wY
  refine ug (λ(q,_,x)=>PG p q/\EW KK x) (λ(q,_,_)=>(q.1.length-q.2.1).toNat) h ?_
  unfold wZ strings_IndexByte xb
  exact LJ⟩
 unfold wu
 exact LJ
end
instance (p:zd):Sp (dn p) (PI p) (PQ p):=⟨λh=>by
 unfold dn
 refine sR (x:=p) PI (λp=>(p.1.length-p.2.1).toNat) PQ ?_ ?_ h
 ·intro g g' hg x
  unfold yo wu wY wZ vw wy ve vf vI uB
  exact mono
 ·intro p hp g hg
  have h1:=z9T (g:=g) (a0:=p.2.1) (s:=p.1) (e:=[43,45]) rfl (3,4,()) (ME λy h=>hg y h.1 (by grind [PI])) p ⟨hp,Z,rfl⟩
  have X:Sp (wu g () ([43,45]:zo) (3,4,()) p) True (PQ p):=⟨λ_=>h1⟩
  clear hg h1
  unfold yo
  exact LJ⟩
instance (s:zo):Sp (rO s) (s.length<=1000000) (λr=>EW KK r.1):=⟨λh=>by
 unfold rO iV vp gX gx
 exact LJ⟩
open T PL
def wd(l:List zo):Prop:=∀ s∈l,1<=s.length/\s.length<=20000
theorem z4B(c:UInt8):∀ (s cur:zo),cur.length+s.length<=20000->wd (cj c cur s)/\(cj c cur s).length<=s.length+1:=by
 intro s
 induction s with
 | nil=>intro cur h; unfold cj; split; exact⟨nofun,qu⟩; rename_i e; exact⟨λx U=>by rw[W.1 U]; have:=List.length_pos_iff.2 e; simp at h; omega,qu⟩
 | cons b s ih =>
  intro cur h
  rw[List.length_cons]at h
  unfold cj
  split
  ·split
   ·have:=ih [] (by simp; omega); exact⟨this.1,by rw[List.length_cons]; omega⟩
   ·rename_i e
    have:=ih [] (by simp; omega)
    refine⟨λx U => ?_,by simp; omega⟩
    rcases zI.1 U with rfl | U
    ·have:=List.length_pos_iff.2 e; omega
    ·exact this.1 x U
  ·have:=ih (cur++[b]) (by simp; omega)
   exact⟨this.1,by rw[List.length_cons]; omega⟩
instance (s:zo):Sp (il s) (s.length<=20000) (λr=>wd r/\r.length<=20001/\(s.length=0->r.length=0)):=⟨λh=>by
 unfold il strings_FieldsFunc
 have:=z4B 32 s [] (by simpa using h)
 refine xf (zj (Z) (ze (ze ⟨this.1,Z,λe => ?_⟩)))
 rw[zW e]; rfl⟩
theorem SM(l c:zo) : -1<=rS l c/\rS l c<l.length:=by
 induction l with
 | nil=>simp[rS]
 | cons b l ih=>unfold rS; rw[List.length_cons]; split; omega; split<;>omega
theorem gow{p:Prop} (h:p:=by
 intros
 repeat' (with_reducible first
  | refine ze ?_
  | refine zf (λ_ => ?_) (λ_ => ?_)
  | refine z8 ?_
  | refine zc ?_
  | refine uH ?_ ?_
  | refine qq ?_ ?_
  | refine vX ?_ ?_
  | refine vq ?_ ?_
  | refine zj ?_ ?_
  | refine vY (λ_ _ => ?_) (λ_ _ => ?_)
  | refine za ?_ (λ_ _ => ?_)
  | refine vG ?_ (λ_ _ => ?_)
  | refine xf ?_
  | dsimp only)
 all_goals grind [xb,uT,eY,jJ,ub,ja,wd,dO,SV,O2,EW0,Vj,WL,zi6,E7,Bb]):p:=h
instance (b:zo):Sp (strings_IndexAny b [60,61]) (b.length<=1000000) (λr => -1<=r/\r<b.length):=⟨λh=>by
 unfold strings_IndexAny
 exact zj ⟨Z,qu,qu,qj⟩ (ze (SM _ _))⟩
instance (a b:zo):Sp (strings_HasPrefix a b) True (λr=>r=true->b.length<=a.length):=⟨λ_=>by unfold strings_HasPrefix kh; exact gow⟩
instance (a b:zo):Sp (strings_Contains a b) (a.length<=1000000) (λ_=>True):=⟨λh=>by unfold strings_Contains; exact gow⟩
instance (b v:zo):Sp (dV b v) (b.length<=20000/\v.length<=10) (λr=>EW KK r.1/\EW KK r.2.1):=⟨λh=>by
 have e1:([61]:zo).length=1:=rfl
 unfold dV
 exact gow⟩
instance (l:List zo) (n i:Int) (s:zo):Sp (nW l n i s) (0<=i/\i<n) (λr=>r=true->l.length=n):=⟨λh=>by unfold nW; exact gow⟩
instance (l:List zo) (i:Int):Sp (dW l i) (wd l/\0<=i/\i<=10) (λr=>r.1.length<=20000):=⟨λh=>by
 have h1:∀ j:Int,0<=j->j<l.length->1<=(nth l j (zb .str)).length/\(nth l j (zb .str)).length<=20000:=λj h0 h1=>h.1 _ (xo h0 h1)
 unfold dW
 exact gow⟩
open T PL
theorem jP{α:Type}{P:α->Prop}{l:List α}(h:∀ x∈l,P x){a:α}(ha:P a):∀ x∈l++[a],P x:=λx U=>by
 rcases zG.1 U with k | k
 ·exact h x k
 ·rw[W.1 k]; exact ha
def zbY(l:List Switch):Prop:=∀ x∈l,x.1.length<=KK
theorem zbZ(l:List Switch)(x:Switch)(h:zbY l)(U:x.1.length<=KK):zbY (l++[x]):=jP h U
def zbQ(l:List Param):Prop:=∀ x∈l,x.1.length<=KK/\rg x.2.1/\rl x.2.1<=1700
theorem zbR(l:List Param)(x:Param)(h:zbQ l)(U:x.1.length<=KK/\rg x.2.1/\rl x.2.1<=1700):zbQ (l++[x]):=jP h U
def zbS(l:List cv):Prop:=∀ x∈l,x.1.length<=KK/\x.2.1.length<=KK
theorem zbT(l:List cv)(x:cv)(h:zbS l)(U:x.1.length<=KK/\x.2.1.length<=KK):zbS (l++[x]):=jP h U
def zbL(l:List Field):Prop:=∀ x∈l,x.1.length<=KK
theorem zbM(l:List Field)(x:Field)(h:zbL l)(U:x.1.length<=KK):zbL (l++[x]):=jP h U
def zbW(l:List cx):Prop:=∀ x∈l,x.1.length<=KK/\x.2.2.1.length<=KK/\EW KK x.2.2.2.1/\EW KK x.2.2.2.2.1
theorem zbX(l:List cx)(x:cx)(h:zbW l)(U:x.1.length<=KK/\x.2.2.1.length<=KK/\EW KK x.2.2.2.1/\EW KK x.2.2.2.2.1):zbW (l++[x]):=jP h U
def zbI(l:List Check):Prop:=∀ x∈l,x.1.length<=KK/\EW KK x.2.2.2.1/\EW KK x.2.2.2.2.1
theorem zbJ(l:List Check)(x:Check)(h:zbI l)(U:x.1.length<=KK/\EW KK x.2.2.2.1/\EW KK x.2.2.2.2.1):zbI (l++[x]):=jP h U
def E6(b:List Switch)(c:List Param)(d:List cv)(e:List Field)(f:List cx)(g:List Check):Prop:=zbY b/\zbQ c/\zbS d/\zbL e/\zbW f/\zbI g
def c6(b:List Switch)(c:List Param)(d:List cv)(e:List Field)(f:List cx)(g:List Check):Nat:=b.length+c.length+d.length+e.length+f.length+g.length
theorem LK{p:Prop} (h:p:=by
 intros
 repeat' (with_reducible first
  | refine ze ?_
  | refine zf (λ_ => ?_) (λ_ => ?_)
  | refine z8 ?_
  | refine zc ?_
  | refine uH ?_ ?_
  | refine qq ?_ ?_
  | refine vX ?_ ?_
  | refine vq ?_ ?_
  | refine zj ?_ ?_
  | refine vY (λ_ _ => ?_) (λ_ _ => ?_)
  | refine za ?_ (λ_ _ => ?_)
  | refine vG ?_ (λ_ _ => ?_)
  | refine xf ?_
  | dsimp only)
 all_goals grind [xb,uT,eY,jJ,ub,zu,ja,E6,c6,List.length_append,List.length_singleton,Vj,WL,zbZ,zbR,zbT,zbM,zbX,zbJ]):p:=h
section
variable (a:List zo) (u:Unit) (b:List Switch) (c:List Param) (d:List cv) (e:List Field) (f:List cx) (g:List Check)
theorem TO{l:List zo}(h:wd l)(j:Int)(h0:0<=j)(h1:j<l.length):1<=(nth l j (zb .str)).length/\(nth l j (zb .str)).length<=20000:=h _ (xo h0 h1)
variable (s:zo)
instance:Sp (kv a u b c d e f g) (E6 b c d e f g/\c6 b c d e f g<=20000/\wd a) (λr=>E6 r.2.2.1 r.2.2.2.1 r.2.2.2.2.1 r.2.2.2.2.2.1 r.2.2.2.2.2.2.1 r.2.2.2.2.2.2.2/\c6 r.2.2.1 r.2.2.2.1 r.2.2.2.2.1 r.2.2.2.2.2.1 r.2.2.2.2.2.2.1 r.2.2.2.2.2.2.2<=c6 b c d e f g+1):=⟨λh=>by
 have h1:=TO h.2.2
 unfold kv
 exact LK⟩
instance:Sp (yc a u b c d e f g) (E6 b c d e f g/\c6 b c d e f g<=20000/\wd a) (λr=>E6 r.2.2.1 r.2.2.2.1 r.2.2.2.2.1 r.2.2.2.2.2.1 r.2.2.2.2.2.2.1 r.2.2.2.2.2.2.2/\c6 r.2.2.1 r.2.2.2.1 r.2.2.2.2.1 r.2.2.2.2.2.1 r.2.2.2.2.2.2.1 r.2.2.2.2.2.2.2<=c6 b c d e f g+1):=⟨λh=>by
 have h1:=TO h.2.2
 unfold yc
 exact LK⟩
instance:Sp (kz a u b c d e f g) (E6 b c d e f g/\c6 b c d e f g<=20000/\wd a) (λr=>E6 r.2.2.1 r.2.2.2.1 r.2.2.2.2.1 r.2.2.2.2.2.1 r.2.2.2.2.2.2.1 r.2.2.2.2.2.2.2/\c6 r.2.2.1 r.2.2.2.1 r.2.2.2.2.1 r.2.2.2.2.2.1 r.2.2.2.2.2.2.1 r.2.2.2.2.2.2.2<=c6 b c d e f g+1):=⟨λh=>by
 have h1:=TO h.2.2
 unfold kz
 exact LK⟩
set_option maxHeartbeats 2000000 in
instance:Sp (yd a u b c d e f g) (E6 b c d e f g/\c6 b c d e f g<=20000/\wd a) (λr=>E6 r.2.2.1 r.2.2.2.1 r.2.2.2.2.1 r.2.2.2.2.2.1 r.2.2.2.2.2.2.1 r.2.2.2.2.2.2.2/\c6 r.2.2.1 r.2.2.2.1 r.2.2.2.2.1 r.2.2.2.2.2.1 r.2.2.2.2.2.2.1 r.2.2.2.2.2.2.2<=c6 b c d e f g+1):=⟨λh=>by
 have h1:=TO h.2.2
 unfold yd
 exact LK⟩
instance:Sp (jH a s u b c d e f g) (E6 b c d e f g/\c6 b c d e f g<=20000/\wd a/\s.length<=20000) (λr=>E6 r.2.2.1 r.2.2.2.1 r.2.2.2.2.1 r.2.2.2.2.2.1 r.2.2.2.2.2.2.1 r.2.2.2.2.2.2.2/\c6 r.2.2.1 r.2.2.2.1 r.2.2.2.2.1 r.2.2.2.2.2.1 r.2.2.2.2.2.2.1 r.2.2.2.2.2.2.2<=c6 b c d e f g+1):=⟨λh=>by
 have h1:=TO h.2.2.1
 unfold jH
 exact LK⟩
instance:Sp (kA a s u b c d e f g) (E6 b c d e f g/\c6 b c d e f g<=20000/\wd a/\s.length<=20000) (λr=>E6 r.2.2.1 r.2.2.2.1 r.2.2.2.2.1 r.2.2.2.2.2.1 r.2.2.2.2.2.2.1 r.2.2.2.2.2.2.2/\c6 r.2.2.1 r.2.2.2.1 r.2.2.2.2.1 r.2.2.2.2.2.1 r.2.2.2.2.2.2.1 r.2.2.2.2.2.2.2<=c6 b c d e f g+1):=⟨λh=>by
 have h1:=TO h.2.2.1
 unfold kA
 exact LK⟩
end
open T PL
instance (a:zo):Sp (strings_Cut a [58]) (a.length<=1000000000) (λr=>r.1.length+r.2.1.length<=a.length/\(a.length=0->r.2.2=false)):=⟨λh=>by
 obtain⟨r,h1,X⟩:=T.mS.1 ((inferInstance:Sp (strings_Cut a [58]) (a.length<=1000000000) (λr=>r.1.length+r.2.1.length<=a.length)).sp h)
 refine bB h1 ⟨X,λe => ?_⟩
 obtain rfl:=zW e
 unfold strings_Cut at h1
 rw[xe (qu),xz]at h1
 cases h1; rfl⟩
theorem znt{p:Prop} (h:p:=by
 intros
 repeat' (with_reducible first
  | refine ze ?_
  | refine zf (λ_ => ?_) (λ_ => ?_)
  | refine z8 ?_
  | refine zc ?_
  | refine uH ?_ ?_
  | refine qq ?_ ?_
  | refine vX ?_ ?_
  | refine vq ?_ ?_
  | refine zj ?_ ?_
  | refine vY (λ_ _ => ?_) (λ_ _ => ?_)
  | refine za ?_ (λ_ _ => ?_)
  | refine vG ?_ (λ_ _ => ?_)
  | refine xf ?_
  | dsimp only)
 all_goals grind [xb]):p:=h
set_option maxHeartbeats 2000000 in
instance (s:zo) (u:Unit) (b:List Switch) (c:List Param) (d:List cv) (e:List Field) (f:List cx) (g:List Check):Sp (j7 s u b c d e f g) (E6 b c d e f g/\c6 b c d e f g<=20000/\s.length<=20000)
  (λr=>E6 r.2.2.1 r.2.2.2.1 r.2.2.2.2.1 r.2.2.2.2.2.1 r.2.2.2.2.2.2.1 r.2.2.2.2.2.2.2/\c6 r.2.2.1 r.2.2.2.1 r.2.2.2.2.1 r.2.2.2.2.2.1 r.2.2.2.2.2.2.1 r.2.2.2.2.2.2.2<=c6 b c d e f g+1/\(s.length=0->c6 r.2.2.1 r.2.2.2.1 r.2.2.2.2.1 r.2.2.2.2.2.1 r.2.2.2.2.2.2.1 r.2.2.2.2.2.2.2=c6 b c d e f g)):=⟨λh=>by
 have h1 := @TO
 unfold j7
 exact znt⟩
def sP(l:List zo):Nat:=(l.map λs=>s.length+1).sum
theorem Iu(a b:List zo):sP (a++b)=sP a+sP b:=by unfold sP; rw[zR,List.sum_append]
theorem z4h(c:UInt8):∀ s:zo,sP (eO c s)=s.length+1/\∀ x∈eO c s,x.length<=s.length:=by
 intro s
 induction s with
 | nil=>exact⟨rfl,by simp[eO]⟩
 | cons b s ih =>
  unfold eO
  split
  ·refine⟨by have:=ih.1; unfold sP at *; simp; omega,λx U => ?_⟩
   rcases zI.1 U with rfl | U
   ·simp
   ·have:=ih.2 x U; simp; omega
  ·revert ih
   generalize eO c s=l
   intro ih
   cases l with
   | nil=>have:=ih.1; simp[sP]at this
   | cons y l =>
    refine⟨by have:=ih.1; unfold sP z3V at *; simp at *; omega,λx U => ?_⟩
    rcases zI.1 U with rfl | U
    ·have:=ih.2 y zE; simp; omega
    ·have:=ih.2 x (I _ U); simp; omega
instance (s:zo):Sp (strings_Split s [10]) (s.length<=1000000) (λr=>sP r=s.length+1/\(∀ x∈r,x.length<=s.length)/\r.length<=s.length+1):=⟨λh=>by
 unfold strings_Split
 have h1:=z4h 10 s
 refine zj ⟨Z,rfl⟩ (ze ⟨h1.1,h1.2,?_⟩)
 have:∀ l:List zo,l.length<=sP l:=λl=>by
  induction l with
  | nil=>simp
  | cons a l ih=>unfold sP at *; simp; omega
 have:=this (eO 10 s)
 show(eO 10 s).length<=_
 omega⟩
open T PL
abbrev F0:Form:=([],[],[],[],[],[],())
def F9(f:Form):Prop:=FW 8200 f/\∀ x∈f.2.1,rl x.2.1<=1700
theorem z09{b:List Switch}{c:List Param}{d:List cv}{e:List Field}{f:List cx}{g:List Check}(h:E6 b c d e f g)(k:c6 b c d e f g<=8200):F9 (b,c,d,e,f,g,()):=by
 obtain⟨h1,X,h3,h4,h5,h6⟩:=h
 unfold c6 at k
 unfold F9 FW
 dsimp only
 exact⟨⟨⟨Z,h1⟩,⟨Z,λx U=>⟨(X x U).1,(X x U).2.1,qO (X x U).2.2 (qj)⟩⟩,⟨Z,h3⟩,⟨Z,h4⟩,⟨Z,h5⟩,Z,h6⟩,λx U=>(X x U).2.2⟩
theorem E60:E6 [] [] [] [] [] []:=⟨nofun,nofun,nofun,nofun,nofun,nofun⟩
theorem Cd(l:List zo)(i:Int)(h0:0<=i)(h1:i<l.length):sP (l.take (i+1).toNat)=sP (l.take i.toNat)+((nth l i (zb .str)).length+1):=by
 rw[cU l i (zb .str) h0 h1,Iu]; rfl
theorem DQ(l:List zo)(n:Nat):sP (l.take n)<=sP l:=by
 have:=Iu (l.take n) (l.drop n)
 rw[List.take_append_drop]at this
 omega
theorem z6L{p:Prop} (h:p:=by
 intros
 repeat' (with_reducible first
  | refine ze ?_
  | refine zf (λ_ => ?_) (λ_ => ?_)
  | refine z8 ?_
  | refine zc ?_
  | refine uH ?_ ?_
  | refine qq ?_ ?_
  | refine vX ?_ ?_
  | refine vq ?_ ?_
  | refine zj ?_ ?_
  | refine vY (λ_ _ => ?_) (λ_ _ => ?_)
  | refine za ?_ (λ_ _ => ?_)
  | refine vG ?_ (λ_ _ => ?_)
  | refine xf ?_
  | dsimp only)
 all_goals grind [xb,zu,ja,ym]):p:=h
instance (u:List zo) (s0):Sp (bW u (u.length:Int) s0) (s0=(0,(),(),[],[],[],[],[],[],[],[],[],[],[],[])/\sP u<=16385/\(∀ x∈u,x.length<=20000)/\u.length<=100000)
  (λz=>match z with | .inl (_,_,_,n,_,o,_,p,_,q,_,r,_,s)=>E6 p q r s o n/\c6 p q r s o n<=8200 | .inr z=>z.2.2.1=F0):=⟨λh=>by
 obtain⟨rfl,h1,X,h3⟩:=h
 unfold bW
 refine cK u (zb .str) (λ(m,_)=>m) (λx=>x.length<=20000) (λ_=>True) (λ(m,_,_,_,n,_,o,_,p,_,q,_,r,_,s)=>0<=m/\E6 p q r s o n/\2*c6 p q r s o n<=sP (u.take m.toNat)) X ⟨rfl,Z,E60,qD _⟩ (λ⟨m,y,z,a,n,b,o,c,p,d,q,e,r,f,s⟩ x ⟨h0,h4,h5⟩ U he _ hm => ?_) λ⟨m,y,z,a,n,b,o,c,p,d,q,e,r,f,s⟩ ⟨h0,h4,h5⟩ hm _ => ?_
 ·have h6:=Cd u m h0 hm
  have h7:=DQ u m.toNat
  have h8:=he▸U
  dsimp only at hm
  clear U he X
  unfold bX
  exact z6L
 ·have h7:=DQ u m.toNat
  dsimp only at hm
  unfold bX
  exact z6L⟩
theorem E1{α:Type}{t:T α}{P Q:α->Prop}(h:t.wp P)(k:t.wp Q):t.wp λa=>P a/\Q a:=by
 obtain⟨a,h1,X⟩:=T.mS.1 h
 exact bB h1 ⟨X,VT k h1⟩
theorem zef(P:Form->Prop)(h0:P F0)(h1:∀ {b c d e f g},E6 b c d e f g->c6 b c d e f g<=8200->P (b,c,d,e,f,g,()))(s:zo)(hv:∀ {f},P f->FW 8200 f):(ik s).wp (λr=>P r.1):=by
 unfold ik oZ
 refine zf (λ_=>ze h0) λB=>za (by have:=hZ B; omega) λu hu => ?_
 have B:=hZ B
 have X:sP u<=16385/\(∀ x∈u,x.length<=20000)/\u.length<=100000:=⟨Z,λx U=>by have:=hu.2.1 x U; omega,Z⟩
 clear hu
 exact z6L
instance (s:zo):Sp (ik s) True (λr=>F9 r.1):=⟨λ_=>zef F9 (z09 E60 (by simp[c6])) z09 s And.left⟩
instance (f:Form):Sp (mB f) (FW 8200 f) (λr=>F9 r):=⟨λh=>by unfold mB; exact z6L⟩
open T PL
theorem NU(c:UInt8):∀ w q:zo,c ∉ w->WQ (w++c::q) [c]=w.length
 | [],q,_=>by simp[WQ]
 | b::w,q,h=>by
  have h1:b≠c:=λe=>h (e▸zE)
  have:=NU c w q λk=>h (I _ k)
  show(if[c].isPrefixOf (b::(w++c::q))then(0:Int)else _)=_
  rw[if_neg (by simp[Ne.symm h1])]
  show(if(WQ (w++c::q) [c] == -1)=true then(-1:Int)else WQ (w++c::q) [c]+1)=_
  rw[this]
  simp
theorem Bz(c:UInt8):∀ s:zo,c ∉ s->WQ s [c] = -1
 | [],_=>rfl
 | b::s,h=>by
  have h1:b≠c:=λe=>h (e▸zE)
  show(if[c].isPrefixOf (b::s)then(0:Int)else _)=_
  rw[if_neg (by simp[Ne.symm h1]),Bz c s λk=>h (I _ k)]
  rfl
theorem LB{k t:zo}(hk:(58:UInt8) ∉ k)(ht:sps t):∃ t' x i,Ue (k++t) [58]=(k++t',x,i)/\sps t'/\((58:UInt8) ∉ t->t'=t):=by
 unfold Ue
 by_cases h:(58:UInt8)∈t
 ·obtain⟨a,b,rfl,ha⟩:=List.eq_append_cons_of_mem h
  have e:=NU 58 (k++a) b (by simp[hk,ha])
  rw[qB]at e
  rw[e,if_pos (Z)]
  have e2:((qC (k++a):Nat):Int).toNat=(k++a).length:=Z
  rw[e2,<- qB k a,List.take_left' rfl]
  refine⟨a,_,_,rfl,?_,λh=>absurd (qu) h⟩
  cases a with
  | nil=>exact .inl rfl
  | cons y a=>exact .inr (by rcases ht with ht | ht<;>simp at ht ⊢; exact ht)
 ·rw[Bz 58 (k++t) (by simp[hk,h])]
  exact⟨t,_,_,rfl,ht,λ_=>rfl⟩
theorem IF:∀ (w cur s:zo),(32:UInt8) ∉ w->cur++w≠[]->cj 32 cur (w++32::s)=(cur++w)::cj 32 [] s
 | [],cur,s,_,h=>by
  have h:cur≠[]:=by simpa using h
  show(if(32:UInt8)=32 then _ else _)=_
  rw[if_pos rfl,if_neg h,zK]
 | b::w,cur,s,h,h1=>by
  have J:b≠32:=λe=>h (e▸zE)
  show(if b=32 then _ else _)=_
  rw[if_neg J]
  show cj 32 (cur++[b]) (w++32::s)=_
  rw[IF w (cur++[b]) s (λk=>h (I _ k)) (qu)]
  simp
theorem z4A:∀ (w cur:zo),(32:UInt8) ∉ w->cur++w≠[]->cj 32 cur w=[cur++w]
 | [],cur,_,h=>by
  have h:cur≠[]:=by simpa using h
  unfold cj
  rw[if_neg h,zK]
 | b::w,cur,h,h1=>by
  have J:b≠32:=λe=>h (e▸zE)
  show(if b=32 then _ else _)=_
  rw[if_neg J,z4A w (cur++[b]) (λk=>h (I _ k)) (qu)]
  simp
theorem VG{n:zo}(h:Tk n):(32:UInt8) ∉ n/\(58:UInt8) ∉ n:=⟨λk=>by have:=h.2 _ k; simp at this,λk=>by have:=h.2 _ k; simp at this⟩
theorem zmo{n t:zo}(h:Tk n)(ht:sps t):cj 32 [] (n++t)=n::cj 32 [] t:=by
 rcases ht with rfl | ht
 ·rw[zK,z4A n [] (VG h).1 h.1]; rfl
 ·cases t with
  | nil=>cases ht
  | cons y t =>
   obtain rfl:y=32:=by simpa using ht
   rw[IF n [] t (VG h).1 h.1]
   rfl
def Rd(N:zo->Prop)(a:List zo)(p:List (zo×zo))(b:List Switch)(c:List Param)(d:List cv)(e:List Field)(f:List cx)(g:List Check):Prop :=
 b.map (·.1)=a/\d.map WR=p/\(∀ x∈c,N x.1)/\(∀ x∈e,N x.1)/\(∀ x∈f,N x.1)/\∀ x∈g,N x.1
section
variable {N:zo->Prop} {A:List zo} {p:List (zo×zo)} {b:List Switch} {c:List Param} {d:List cv} {e:List Field} {f:List cx} {g:List Check}
theorem Rd.sw(h:Rd N A p b c d e f g)(x:Switch):Rd N (A++[x.1]) p (b++[x]) c d e f g:=⟨by rw[zR,h.1]; rfl,h.2⟩
theorem Rd.pa(h:Rd N A p b c d e f g)(x:Param)(k:N x.1):Rd N A p b (c++[x]) d e f g:=⟨h.1,h.2.1,jP h.2.2.1 k,h.2.2.2⟩
theorem Rd.pg(h:Rd N A p b c d e f g)(x:cv):Rd N A (p++[WR x]) b c (d++[x]) e f g:=⟨h.1,by rw[zR,h.2.1]; rfl,h.2.2⟩
theorem Rd.fi(h:Rd N A p b c d e f g)(x:Field)(k:N x.1):Rd N A p b c d (e++[x]) f g:=⟨h.1,h.2.1,h.2.2.1,jP h.2.2.2.1 k,h.2.2.2.2⟩
theorem Rd.ru(h:Rd N A p b c d e f g)(x:cx)(k:N x.1):Rd N A p b c d e (f++[x]) g:=⟨h.1,h.2.1,h.2.2.1,h.2.2.2.1,jP h.2.2.2.2.1 k,h.2.2.2.2.2⟩
theorem Rd.ch(h:Rd N A p b c d e f g)(x:Check)(k:N x.1):Rd N A p b c d e f (g++[x]):=⟨h.1,h.2.1,h.2.2.1,h.2.2.2.1,h.2.2.2.2.1,jP h.2.2.2.2.2 k⟩
end
abbrev R8:=(Unit)×(List Switch)×(List Param)×(List cv)×(List Field)×(List cx)×(List Check)
def IS(N:zo->Prop)(A:List zo)(p:List (zo×zo))(r:R8):Prop:=Rd N A p r.2.1 r.2.2.1 r.2.2.2.1 r.2.2.2.2.1 r.2.2.2.2.2.1 r.2.2.2.2.2.2
section
variable {N:zo->Prop} {A:List zo} {p:List (zo×zo)} (a:List zo) {u:Unit} {b:List Switch} {c:List Param} {d:List cv} {e:List Field} {f:List cx} {g:List Check} (s:zo)
theorem o0{α A hl C D κ' F:Type}{a:List A}{b:List hl}{c:List C}{d:List D}{e:List κ'}{f:List F}{t:T α}{Q:α->Prop}(k:t.wp Q):(oY a b c d e f t).wp Q :=
 zc (zc (zc (zc (zc (zc (z8 (z8 (z8 (z8 (z8 (z8 k)))))))))))
theorem M7(J:E6 b c d e f g/\c6 b c d e f g<=20000/\wd a)(h:Rd N A p b c d e f g):(kv a u b c d e f g).wp λr=>r.1=true->IS N (A++[nth a 1 (zb .str)]) p r.2:=by
 have h1:=TO J.2.2
 unfold kv
 refine xf (xv (P:=λz:Bool×R8=>z.2=((),b,c,d,e,f,g)/\(z.1=false->a.length=3)) ?_ ?_)
 ·exact LK
 ·rintro⟨q,r⟩ ⟨rfl,B⟩
  refine zf (λ_=>o0 (ze nofun)) λq => ?_
  have B:=B q
  have hc:=J.2.1
  unfold c6 at hc
  refine qq ⟨qj,Z⟩ (qq ⟨qj,Z⟩ (vX (Z) (zj ⟨qu,rfl,qu⟩ (zc (zc (zc (zc (zc (zj (qu) (z8 (z8 (z8 (z8 (z8 (ze λ_=>h.sw _)))))))))))))))
theorem SQ(J:E6 b c d e f g/\c6 b c d e f g<=20000/\wd a)(h:Rd N A p b c d e f g)(hN:N (nth a 1 (zb .str))):(yc a u b c d e f g).wp λr=>r.1=true->IS N A p r.2:=by
 have h1:=TO J.2.2
 unfold yc
 refine xf (xv (P:=λz:Bool×R8=>z.2=((),b,c,d,e,f,g)/\(z.1=false->a.length=3)) ?_ ?_)
 ·exact LK
 ·rintro⟨q,r⟩ ⟨rfl,B⟩
  refine zf (λ_=>o0 (ze nofun)) λq => ?_
  have B:=B q
  have hc:=J.2.1
  unfold c6 at hc
  exact qq ⟨qj,Z⟩ (za trivial λ⟨n,k⟩ _=>qq ⟨qj,Z⟩ (vX (Z) (zc (zj ⟨qu,rfl,qu⟩ (zc (zc (zc (zc (z8 (zj (qu) (z8 (z8 (z8 (z8 (ze λ_=>h.pa _ hN)))))))))))))))
theorem z6N(l:List zo)(i:Int)(h:wd l/\0<=i/\i<=10):(dW l i).wp λr=>r.2=true->((l.length:Int)=i/\r.1=[])\/((l.length:Int)=i+2/\r.1=nth l (i+1) (zb .str)):=by
 have h1:∀ j:Int,0<=j->j<l.length->1<=(nth l j (zb .str)).length/\(nth l j (zb .str)).length<=20000:=λj h0 h1=>h.1 _ (xo h0 h1)
 unfold dW
 exact gow
theorem N1(J:E6 b c d e f g/\c6 b c d e f g<=20000/\wd a)(h:Rd N A p b c d e f g):(kz a u b c d e f g).wp λr=>r.1=true->∃ w,((a.length=2/\w=[])\/(a.length=4/\w=nth a 3 (zb .str)))/\IS N A (p++[(nth a 1 (zb .str),w)]) r.2:=by
 have h1:=TO J.2.2
 unfold kz
 refine xf (xv (P:=λz:Bool×R8=>z.2=((),b,c,d,e,f,g)/\(z.1=false->2<=a.length)) ?_ ?_)
 ·exact LK
 ·rintro⟨q,r⟩ ⟨rfl,B⟩
  refine zf (λ_=>o0 (ze nofun)) λq => ?_
  have B:=B q
  have hc:=J.2.1
  unfold c6 at hc
  refine xf (xv (z6N a 2 ⟨J.2.2,qj,qj⟩) λ⟨w,k⟩ hw => ?_)
  exact qq ⟨qj,Z⟩ (vX (Z) (zc (zc (zj ⟨qu,rfl,qu⟩ (zc (zc (zc (z8 (z8 (zj (qu) (z8 (z8 (z8 (ze λe=>⟨w,(hw e).imp (λz=>⟨Z,z.2⟩) λz=>⟨Z,z.2⟩,h.pg _⟩))))))))))))))
set_option maxHeartbeats 2000000 in
theorem Iy(J:E6 b c d e f g/\c6 b c d e f g<=20000/\wd a)(h:Rd N A p b c d e f g)(hN:N (nth a 1 (zb .str))):(yd a u b c d e f g).wp λr=>r.1=true->IS N A p r.2:=by
 have h1:=TO J.2.2
 have X:=λz=>h.fi z
 unfold yd
 refine xf (xv (P:=λz:Bool×R8=>z.2=((),b,c,d,e,f,g)/\(z.1=false->2<=a.length)) ?_ ?_)
 ·exact LK
 ·rintro⟨q,r⟩ ⟨rfl,B⟩
  refine zf (λ_=>o0 (ze nofun)) λq => ?_
  have B:=B q
  unfold IS
  dsimp only
  clear h
  exact LK
theorem Ix(J:E6 b c d e f g/\c6 b c d e f g<=20000/\wd a/\s.length<=20000)(h:Rd N A p b c d e f g)(hN:N (nth a 1 (zb .str))):(jH a s u b c d e f g).wp λr=>r.1=0->IS N A p r.2:=by
 have h1:=TO J.2.2.1
 have X:=λz=>h.ch z
 unfold jH
 refine xf (xv (P:=λz:Bool×R8=>z.2=((),b,c,d,e,f,g)/\(z.1=false->a.length=2)) ?_ ?_)
 ·exact LK
 ·rintro⟨q,r⟩ ⟨rfl,B⟩
  refine zf (λ_=>o0 (ze nofun)) λq => ?_
  have B:=B q
  unfold IS
  dsimp only
  clear h
  exact LK
theorem N2(J:E6 b c d e f g/\c6 b c d e f g<=20000/\wd a/\s.length<=20000)(h:Rd N A p b c d e f g)(hN:N (nth a 2 (zb .str))):(kA a s u b c d e f g).wp λr=>r.1=0->IS N A p r.2:=by
 have h1:=TO J.2.2.1
 have X:=λz=>h.ru z
 unfold kA
 refine xf (xv (P:=λz:Bool×R8=>z.2=((),b,c,d,e,f,g)/\(z.1=false->3<=a.length)) ?_ ?_)
 ·exact LK
 ·rintro⟨q,r⟩ ⟨rfl,B⟩
  refine zf (λ_=>o0 (ze nofun)) λq => ?_
  have B:=B q
  unfold IS
  dsimp only
  clear h
  exact LK
theorem DS(w0:zo)(rest:List zo){z6 K:zo}{i:Bool}{A':List zo}{p':List (zo×zo)}(J:E6 b c d e f g/\c6 b c d e f g<=20000/\s.length<=20000)(h:Rd N A p b c d e f g)
  (hc:Ue s [58]=(z6,K,i)) (hw:cj 32 [] z6=w0::rest) (h0:vz w0 0≠35)
  (h1:w0=[115,119,105,116,99,104]->A'=A++[nth (w0::rest) 1 (zb .str)]/\p'=p) (X:w0=[112,97,103,101]->A'=A/\∀ w,((rest.length=1/\w=[])\/(rest.length=3/\w=nth (w0::rest) 3 (zb .str)))->p'=p++[(nth (w0::rest) 1 (zb .str),w)])
  (h3:w0=[112,97,114,97,109]\/w0=[102,105,101,108,100]\/w0=[99,104,101,99,107]->A'=A/\p'=p/\N (nth (w0::rest) 1 (zb .str))) (h4:w0=[114,117,108,101]->A'=A/\p'=p/\N (nth (w0::rest) 2 (zb .str))) :
  (j7 s u b c d e f g).wp λr=>r.1=0->IS N A' p' r.2:=by
 have B:z6.length+K.length<=s.length:=by
  have:=(inferInstance:Sp (strings_Cut s [58]) (s.length<=1000000000) (λr=>r.1.length+r.2.1.length<=s.length/\(s.length=0->r.2.2=false))).sp (Z)
  unfold strings_Cut at this
  have:=VT this (xe (Z) _ |>.trans (xz _))
  rw[hc]at this
  exact this.1
 have V:wd (w0::rest):=hw▸(z4B 32 z6 [] (by simp; omega)).1
 have l0:=(V w0 zE).1
 have hB:E6 b c d e f g/\c6 b c d e f g<=20000/\wd (w0::rest):=⟨J.1,J.2.1,V⟩
 have hB2:E6 b c d e f g/\c6 b c d e f g<=20000/\wd (w0::rest)/\K.length<=20000:=⟨J.1,J.2.1,V,Z⟩
 have hn:nth (w0::rest) 0 (zb .str)=w0:=rfl
 have hz:∀ {z:R8},(2:Int)=0->IS N A' p' z:=λh=>by cases h
 unfold j7
 refine xf (xv (P:=λr=>r=(z6,K,i)) (by unfold strings_Cut; exact zj (Z) (ze hc)) ?_)
 rintro _ rfl
 refine xf (xv (P:=λr=>r=w0::rest) (by unfold il strings_FieldsFunc; exact xf (zj (Z) (ze (ze hw)))) ?_)
 rintro _ rfl
 dsimp only
 rw[hn]
 refine zj ⟨λ_ _ _=>⟨⟨qj,by simp<;>omega⟩,qj,Z⟩,λ_ _=>⟨⟨qj,by simp<;>omega⟩,qj,Z⟩⟩ (wk (by simp[h0]<;>omega) (wk (by simp<;>omega) (zj (λ_=>⟨qj,by simp<;>omega⟩) (zf (λq => ?_) λ_ => ?_))))
 ·have q:w0=[99,104,101,99,107]:=by have:=(zU.1 q).2; simpa[xw]using this
  obtain⟨rfl,rfl,k⟩:=h3 (.inr (.inr q))
  exact o0 (xf (xv (Ix _ K hB2 h k) λr hr=>o0 (ze hr)))
 refine zj (λ_=>⟨qj,by simp<;>omega⟩) (zf (λq => ?_) λ_=>zf (λ_=>vy rfl (o0 (ze hz))) λ_=>qq ⟨qj,by simp<;>omega⟩ (zf (λq => ?_) λ_=>qq ⟨qj,by simp<;>omega⟩ (zf (λq => ?_) λ_=>qq ⟨qj,by simp<;>omega⟩ (zf (λq => ?_) λ_=>qq ⟨qj,by simp<;>omega⟩ (zf (λq => ?_) λ_=>vy rfl (o0 (ze hz)))))))
 ·have q:w0=[114,117,108,101]:=by have:=(zU.1 q).2; simpa[xw]using this
  obtain⟨rfl,rfl,k⟩:=h4 q
  exact o0 (xf (xv (N2 _ K hB2 h k) λr hr=>o0 (ze hr)))
 ·obtain⟨rfl,rfl⟩:=h1 (by simpa[xw]using q)
  exact o0 (xf (xv (M7 _ hB h) λr hr=>zf (λ_=>o0 (ze hz)) λe=>o0 (ze λ_=>hr (by simpa using e))))
 ·obtain⟨rfl,rfl,k⟩:=h3 (.inl (by simpa[xw]using q))
  exact o0 (xf (xv (SQ _ hB h k) λr hr=>zf (λ_=>o0 (ze hz)) λe=>o0 (ze λ_=>hr (by simpa using e))))
 ·obtain⟨rfl,k⟩:=X (by simpa[xw]using q)
  exact o0 (xf (xv (N1 _ hB h) λr hr=>zf (λ_=>o0 (ze hz)) λe=>o0 (ze λ_=>by
   obtain⟨w,h3,h4⟩:=hr (by simpa using e)
   rw[k w (by simpa using h3)]
   exact h4)))
 ·obtain⟨rfl,rfl,k⟩:=h3 (.inr (.inl (by simpa[xw]using q)))
  exact o0 (xf (xv (Iy _ hB h k) λr hr=>zf (λ_=>o0 (ze hz)) λe=>o0 (ze λ_=>hr (by simpa using e))))
end
open T PL
theorem zeu(gy:List It)(h:∀ i∈gy,(10:UInt8) ∉ i.Hp):eO 10 (tx gy)=gy.map It.Hp++[[]]:=by
 have key:∀ s r:zo,(10:UInt8) ∉ s->eO 10 (s++10::r)=s::eO 10 r:=by
  intro s
  induction s with
  | nil=>intro r _; show(if(10:UInt8)=10 then _ else _)=_; rw[if_pos rfl]
  | cons b s ih =>
   intro r hs
   have J:b≠10:=λe=>hs (e▸zE)
   show(if b=10 then _ else z3V b (eO 10 (s++10::r)))=_
   rw[if_neg J,ih r λk=>hs (I _ k)]
   rfl
 induction gy with
 | nil=>rfl
 | cons i l ih =>
  have e:tx (i::l)=i.Hp++10::tx l:=by simp[tx]
  rw[e,key _ _ (h i zE),ih λj hj=>h j (I _ hj)]
  rfl
theorem It.zpl{N:zo->Prop}:∀ {i:It},i.ok N->(10:UInt8) ∉ i.Hp:=λ{i} h=>by
 have key:∀ s:zo,cl s->(10:UInt8) ∉ s:=λs k m=>k _ m rfl
 refine key _ ?_
 cases i with
 | sw n b=>exact yu.2 ⟨yu.2 ⟨qj,JR h⟩,by cases b<;>decide⟩
 | pg n w =>
  refine yu.2 ⟨yu.2 ⟨qj,JR h.1⟩,?_⟩
  unfold Cm
  split
  ·exact(qj)
  ·rename_i e; exact yu.2 ⟨qj,JR (h.2.resolve_left e)⟩
 | ot k n t =>
  refine yu.2 ⟨yu.2 ⟨?_,JR h.2.1⟩,h.2.2.2.1⟩
  have:∀ k∈kws,cl k:=qj
  exact this k h.1
section
variable {N:zo->Prop} {A:List zo} {p:List (zo×zo)} {u:Unit} {b:List Switch} {c:List Param} {d:List cv} {e:List Field} {f:List cx} {g:List Check}
theorem Yq{k n t:zo}(hk:(32:UInt8) ∉ k/\k≠[])(hn:Tk n)(ht:sps t):cj 32 [] (k++32::(n++t))=k::n::cj 32 [] t:=by
 rw[IF k [] _ hk.1 hk.2,zmo hn ht]; rfl
theorem za3(i:It)(hi:i.ok N)(J:E6 b c d e f g/\c6 b c d e f g<=20000/\i.Hp.length<=20000)(h:Rd N A p b c d e f g) :
  (j7 i.Hp u b c d e f g).wp λr=>r.1=0->IS N (A++i.TH) (p++i.Tp) r.2:=by
 cases i with
 | sw n q =>
  have hn:Tk n:=hi
  have e1:(It.sw n q).Hp=[115,119,105,116,99,104,32]++n++(bif q then[32,111,110]else[32,111,102,102]):=rfl
  have hs:sps (bif q then([32,111,110]:zo)else[32,111,102,102]):=.inr (by cases q<;>rfl)
  obtain⟨t',x,j,hc,ht,-⟩:=LB (k:=[115,119,105,116,99,104,32]++n) (t:=bif q then[32,111,110]else[32,111,102,102]) (by simp[(VG hn).2]) hs
  rw[<- e1]at hc
  exact DS _ [115,119,105,116,99,104] (n::cj 32 [] t') J h hc (by have:=Yq (k:=[115,119,105,116,99,104]) (t:=t') (qj) hn ht; simpa using this) (qj) (λ_=>⟨rfl,by simp[It.Tp]⟩) (λq=>absurd q (qj)) (λq=>absurd q (qj)) (λq=>absurd q (qj))
 | pg n w =>
  have hn:Tk n:=hi.1
  have hw:sps (Cm w)/\(58:UInt8) ∉ Cm w/\(w=[]/\cj 32 [] (Cm w)=[]\/cj 32 [] (Cm w)=[[119,104,101,110],w]):=by
   unfold Cm
   split
   ·rename_i e; exact⟨.inl rfl,nofun,.inl ⟨e,rfl⟩⟩
   ·rename_i e
    have k:=hi.2.resolve_left e
    refine⟨.inr rfl,by simp[cat,(VG k).2],.inr ?_⟩
    show cj 32 [] (32::([119,104,101,110]++32::w))=_
    show cj 32 [] ([119,104,101,110]++32::w)=_
    rw[IF _ [] _ (qj) (qj),z4A w [] (VG k).1 k.1]; rfl
  obtain⟨t',x,j,hc,ht,h58⟩:=LB (k:=[112,97,103,101,32]++n) (t:=Cm w) (by simp[(VG hn).2]) hw.1
  obtain rfl:=h58 hw.2.1
  change Ue (It.pg n w).Hp [58]=_ at hc
  refine DS _ [112,97,103,101] (n::cj 32 [] (Cm w)) J h hc (by have:=Yq (k:=[112,97,103,101]) (t:=Cm w) (qj) hn ht; simpa using this) (qj) (λq=>absurd q (qj)) (λ_=>⟨by simp[It.TH],λv hv => ?_⟩) (λq=>absurd q (qj)) (λq=>absurd q (qj))
  show p++[(n,w)]=p++[(n,v)]
  rcases hw.2.2 with⟨rfl,k⟩ | k<;>rw[k]at hv<;>rcases hv with⟨h1,X⟩ | ⟨h1,X⟩
  ·rw[X]
  ·cases h1
  ·cases h1
  ·rw[X]; rfl
 | ot k n t =>
  obtain⟨hk,hn,hN,_,hs⟩:=hi
  have e1:(It.ot k n t).Hp=k++n++t:=rfl
  have k58:(58:UInt8) ∉ k:=by have:∀ k∈kws,(58:UInt8) ∉ k:=qj; exact this k hk
  obtain⟨t',x,j,hc,ht,-⟩:=LB (k:=k++n) (t:=t) (by simp[k58,(VG hn).2]) hs
  rw[<- e1]at hc
  have s0:A++(It.ot k n t).TH=A/\p++(It.ot k n t).Tp=p:=⟨zK _,zK _⟩
  have one:∀ k0:zo,k=k0++[32]->(32:UInt8) ∉ k0/\k0≠[]->vz k0 0≠35->k0≠[115,119,105,116,99,104]->k0≠[112,97,103,101]->k0≠[114,117,108,101]->(j7 (It.ot k n t).Hp u b c d e f g).wp λr=>r.1=0->IS N (A++(It.ot k n t).TH) (p++(It.ot k n t).Tp) r.2:=by
   rintro k0 rfl h1 X h3 h4 h5
   refine DS _ k0 (n::cj 32 [] t') J h hc (by have:=Yq (t:=t') h1 hn ht; simpa using this) X (λq=>absurd q h3) (λq=>absurd q h4) (λ_=>⟨s0.1,s0.2,hN⟩) (λq=>absurd q h5)
  have two:∀ s:zo,k=ruK s->(32:UInt8) ∉ s/\s≠[]->(j7 (It.ot k n t).Hp u b c d e f g).wp λr=>r.1=0->IS N (A++(It.ot k n t).TH) (p++(It.ot k n t).Tp) r.2:=by
   rintro s rfl h1
   refine DS _ [114,117,108,101] (s::n::cj 32 [] t') J h hc ?_ (qj) (λq=>absurd q (qj)) (λq=>absurd q (qj)) (λq=>absurd q (qj)) (λ_=>⟨s0.1,s0.2,hN⟩)
   have e2:ruK s++n++t'=[114,117,108,101]++32::(s++32::(n++t')):=by simp[ruK,cat]
   rw[e2,IF _ [] _ (qj) (qj),Yq h1 hn ht]; rfl
  rcases zG.1 hk with q | q
  ·simp only[zI,List.not_mem_nil,or_false]at q
   rcases q with q | q | q
   ·exact one [112,97,114,97,109] q (qj) (qj) (qj) (qj) (qj)
   ·exact one [102,105,101,108,100] q (qj) (qj) (qj) (qj) (qj)
   ·exact one [99,104,101,99,107] q (qj) (qj) (qj) (qj) (qj)
  ·obtain⟨s,hs,rfl⟩:=List.mem_map.1 q
   exact two s rfl ((by decide:∀ s∈stg,(32:UInt8) ∉ s/\s≠[]) s hs)
theorem zey(J:E6 b c d e f g)(h:Rd N A p b c d e f g):(j7 [] u b c d e f g).wp λr=>r.1=0->IS N A p r.2:=by
 unfold j7
 refine xf (xv (P:=λr=>r=([],[],false)) (by unfold strings_Cut; exact zj (qj) (ze rfl)) ?_)
 rintro _ rfl
 refine xf (xv (P:=λr=>r=[]) (by unfold il strings_FieldsFunc; exact xf (zj (qj) (ze (ze rfl)))) ?_)
 rintro _ rfl
 exact zj ⟨λ_ _ q=>by simp at q,λq=>by simp at q⟩ (vy rfl (o0 (ze λ_=>h)))
end
def Ow(f f':Form):Prop:=f'.1.map (·.1)=f.1.map (·.1)/\f'.2.2.1.map WR=f.2.2.1.map WR/\∀ n,fm f' n->fm f n
theorem z9H(N:zo->Prop)(gy:List It)(hi:∀ i∈gy,i.ok N)(u:List zo)(hu:u=gy.map It.Hp++[[]])(h1:sP u<=16385)(X:∀ x∈u,x.length<=20000)(h3:u.length<=100000) :
  (bW u (u.length:Int) (0,(),(),[],[],[],[],[],[],[],[],[],[],[],[])).wp λz=>match z with | .inl (_,_,_,n,_,o,_,p,_,q,_,r,_,s)=>Rd N (gy.flatMap It.TH) (gy.flatMap It.Tp) p q r s o n | .inr z=>z.2.2.1=F0:=by
 unfold bW
 have B:u.length=gy.length+1:=by rw[hu]; simp
 refine cK u (zb .str) (λ(m,_)=>m) (λx=>x.length<=20000) (λ_=>True) (λ(m,_,_,_,n,_,o,_,p,_,q,_,r,_,s)=>0<=m/\E6 p q r s o n/\2*c6 p q r s o n<=sP (u.take m.toNat)/\Rd N ((gy.take m.toNat).flatMap It.TH) ((gy.take m.toNat).flatMap It.Tp) p q r s o n) X ⟨rfl,Z,E60,qD _,rfl,rfl,nofun,nofun,nofun,nofun⟩ (λ⟨m,y,z,a,n,b,o,c,p,d,q,e,r,f,s⟩ x ⟨h0,h4,h5,h6⟩ U he _ hm => ?_) λ⟨m,y,z,a,n,b,o,c,p,d,q,e,r,f,s⟩ ⟨h0,h4,h5,h6⟩ hm _ => ?_
 ·have k6:=Cd u m h0 hm
  have k7:=DQ u (m+1).toNat
  have he:nth u m (zb .str)=x:=he
  have hm:m<u.length:=hm
  rw[he]at k6
  have hw:ql (m+1)=m+1:=qv (Z) (Z)
  have V:(j7 x () p q r s o n).wp λz=>z.1=0->IS N ((gy.take (m+1).toNat).flatMap It.TH) ((gy.take (m+1).toNat).flatMap It.Tp) z.2:=by
   by_cases q1:m<gy.length
   ·have Da:x=(nth gy m (.sw [] true)).Hp:=by
     rw[<- he,hu]
     unfold nth
     rw[zA,List.getElem?_append_left (by simp; omega),List.getElem?_map,zA,zH (Z)]
     rfl
    rw[cU gy m (.sw [] true) h0 q1,List.flatMap_append,List.flatMap_append,Da]
    have:=za3 (nth gy m (.sw [] true)) (hi _ (xo h0 q1)) ⟨h4,Z,by rw[<- Da]; exact U⟩ h6 (u:=())
    simpa using this
   ·have Da:x=[]:=by
     rw[<- he,hu]
     unfold nth
     rw[zA,List.getElem?_append_right (by simp; omega),show m.toNat-(gy.map It.Hp).length=0 by simp; omega]
     rfl
    rw[zF (Z)]at h6 ⊢
    rw[Da]
    exact zey h4 h6
  unfold bX
  refine vy (decide_eq_true hm) (qq ⟨h0,hm⟩ (o0 ?_))
  rw[he]
  refine xf (xv (E1 (Sp.sp ⟨h4,Z,U⟩) V) λ⟨t,_,g,h,i,j,k,l⟩ ⟨z1,z2⟩ => ?_)
  dsimp only
  refine zf (λ_ => ?_) λe0 => ?_
  ·exact zc (zc (zc (zc (zc (zc (z8 (z8 (z8 (z8 (z8 (z8 (z8 (z8 (z8 (z8 (z8 (z8 (ze rfl))))))))))))))))))
  ·have e0:t=0:=by simpa using e0
   refine zc (zc (zc (zc (zc (zc (zc (zc (zc (zc (zc (zc (z8 (z8 (z8 (z8 (z8 (z8 (z8 (z8 (z8 (z8 (z8 (z8 (ze ?_))))))))))))))))))))))))
   rw[hw]
   refine⟨rfl,⟨Z,z1.1,?_,z2 e0⟩,trivial⟩
   have z3:=z1.2.1
   have z4:=z1.2.2
   dsimp only at z3 z4 ⊢
   by_cases q2:x.length=0
   ·have:=z4 q2; omega
   ·omega
 ·have hm:m=u.length:=hm
  rw[zF (Z)]at h6
  unfold bX
  refine wk (decide_eq_false (Z)) ?_
  exact zc (zc (zc (zc (zc (zc (zc (zc (zc (zc (zc (zc (z8 (z8 (z8 (z8 (z8 (z8 (z8 (z8 (z8 (z8 (z8 (z8 (ze h6))))))))))))))))))))))))
theorem zm7(f:Form)(h:FW 8200 f):(mB f).wp λf'=>F9 f'/\(f'=F0\/Ow f f'):=by
 refine E1 (Sp.sp h) ?_
 unfold mB nV
 refine xf (xv (P:=λr=>r=[]\/Tx f r) (za h λb J=>zf (λ_=>ze (.inl rfl)) λe=>za (J (by simpa using e)) λc hc=>ze (.inr hc)) λr hr => ?_)
 refine xf (xv (P:=λz:Form×Int×Int=>z.1=F0\/Ow f z.1) ?_ λ⟨z,_,_⟩ hz=>ze hz)
 obtain⟨N,gy,hr,hi,hN,hA⟩:∃ (N:zo->Prop) (gy:List It),r=tx gy/\(∀ i∈gy,i.ok N)/\(∀ n,N n->fm f n)/\((gy=[]/\∀ n,¬ N n)\/(gy.flatMap It.TH=f.1.map (·.1)/\gy.flatMap It.Tp=f.2.2.1.map WR)):=by
  rcases hr with rfl | ⟨gy,h1,X,h3⟩
  ·exact⟨λ_=>False,[],rfl,nofun,nofun,.inl ⟨rfl,λ_ h=>h⟩⟩
  ·exact⟨fm f,gy,h1,X,λ_ h=>h,.inr h3⟩
 unfold ik oZ
 refine zf (λ_=>ze (.inl rfl)) λB => ?_
 have B:=hZ B
 refine xf (xv (E1 (Sp.sp (t:=strings_Split r [10]) (Z)) (xv (P:=λz=>z=eO 10 r) (by unfold strings_Split; exact zj ⟨Z,rfl⟩ (ze rfl)) λ_ h=>h)) ?_)
 rintro u ⟨hu,Ef⟩
 have Ef:u=gy.map It.Hp++[[]]:=by rw[Ef,hr]; exact zeu gy λi k=>It.zpl (hi i k)
 have V:=z9H N gy hi u Ef (Z) (λx U=>by have:=hu.2.1 x U; omega) (Z)
 have c:=cz0
 refine⟨c,c,c,c,c,c,c,c,c,c,c,c,rfl,rfl,rfl,rfl,rfl,rfl,rfl,rfl,rfl,rfl,rfl,rfl,xf (xv (E1 (Sp.sp (t:=bW u (u.length:Int) (0,(),(),[],[],[],[],[],[],[],[],[],[],[],[])) ⟨rfl,Z,λx U=>by have:=hu.2.1 x U; omega,Z⟩) V) λz hz => ?_)⟩
 cases z with
 | inl z =>
  obtain⟨n,o,p,a,q,b,r,c,s,d,t,e,v,g⟩:=z
  obtain⟨⟨z1,z2⟩,z3⟩:=hz
  dsimp only[Sum.elim_inl]
  simp only[ym]
  refine z8 (z8 (z8 (z8 (z8 (z8 (za (z09 z1 z2).1 λj _=>zf (λ_=>ze (.inl rfl)) λ_=>z8 (z8 (z8 (z8 (z8 (z8 (ze ?_))))))))))))
  obtain⟨w1,w2,w3,w4,w5,w6⟩:=z3
  rcases hA with⟨rfl,k⟩ | ⟨k1,k2⟩
  ·left
   have nil:∀ {α:Type} {l:List α} {g:α->zo},(∀ x∈l,N (g x))->l=[]:=λ{α l g} h=>List.eq_nil_iff_forall_not_mem.2 λx U=>k _ (h x U)
   rw[List.map_eq_nil_iff.1 w1,List.map_eq_nil_iff.1 w2,nil w3,nil w4,nil w5,nil w6]
  ·refine .inr ⟨w1.trans k1,w2.trans k2,?_⟩
   rintro n (⟨x,U,rfl⟩ | ⟨x,U,rfl⟩ | ⟨x,U,rfl⟩ | ⟨x,U,rfl⟩)
   ·exact hN _ (w3 x U)
   ·exact hN _ (w4 x U)
   ·exact hN _ (w5 x U)
   ·exact hN _ (w6 x U)
 | inr z =>
  obtain⟨k,l,m,v,w,x,y,z,A,hl,C,D,κ',G,H,zC⟩:=z
  exact ze (.inl hz.2)
open T PL
def tg(l:List Term):Prop:=∀ t∈l,rg t.2.1
def tb:List Term->Nat
 | []=>0
 | t::l=>max (rl t.2.1) (tb l)
theorem XU{l:List Term}{t:Term}(h:t∈l):rl t.2.1<=tb l:=by
 induction l with
 | nil=>cases h
 | cons a l ih =>
  unfold tb
  rcases zI.1 h with rfl | h
  ·omega
  ·have:=ih h; omega
theorem zeB(l:List Term)(t:Term):tb (l++[t])=max (tb l) (rl t.2.1):=by
 induction l with
 | nil=>simp[tb]
 | cons a l ih=>rw[List.cons_append,tb,tb,ih]; omega
theorem zeC(l:List Term)(t:Term)(h:tg l)(k:rg t.2.1):tg (l++[t]):=jP h k
theorem B0(l:List Term)(h:tg l)(i:Int)(h0:0<=i)(h1:i<l.length):rg (nth l i (zb qk)).2.1/\rl (nth l i (zb qk)).2.1<=tb l:=⟨h _ (xo h0 h1),XU (xo h0 h1)⟩
theorem zmk(l:List Term)(h:tg l)(h1:1<=l.length):tg (jS (e:=qk) 1 (l.length:Int) l)/\tb (jS (e:=qk) 1 (l.length:Int) l)<=tb l/\(jS (e:=qk) 1 (l.length:Int) l).length+1=l.length:=by
 have e:jS (e:=qk) 1 (l.length:Int) l=l.tail:=by unfold jS; simp
 rw[e]
 cases l with
 | nil=>simp at h1
 | cons a l=>exact⟨λt ht=>h t (I _ ht),by rw[tb]; simp; omega,qu⟩
theorem tg0:tg []/\tb []=0:=⟨nofun,rfl⟩
def cg(c:vO):Prop:=tg c.2.1/\rg c.2.2.1
def cb(c:vO):Nat:=max (tb c.2.1) (rl c.2.2.1)
theorem XO:rg (false,[],[],())/\rl (false,[],[],())=0:=⟨⟨vL,vL⟩,by simp[rl]⟩
theorem Fc{p:Prop} (h:p:=by
 intros
 repeat' (with_reducible first
  | refine ze ?_
  | refine zf (λ_ => ?_) (λ_ => ?_)
  | refine z8 ?_
  | refine zc ?_
  | refine uH ?_ ?_
  | refine qq ?_ ?_
  | refine vX ?_ ?_
  | refine vq ?_ ?_
  | refine zj ?_ ?_
  | refine vY (λ_ _ => ?_) (λ_ _ => ?_)
  | refine za ?_ (λ_ _ => ?_)
  | refine vG ?_ (λ_ _ => ?_)
  | refine xf ?_
  | dsimp only)
 all_goals grind [xb,jJ,ub,zu,ja,ym,zeB,zeC,tg0,cg,cb,XO,WL,List.length_append,List.length_singleton,E7,Bb]):p:=h
set_option maxHeartbeats 4000000 in
instance (s:List Term×List Term×(Int×Bool×List Int×List Int×Unit)×(Int×Bool×List Int×List Int×Unit)×List Term×List Term):Sp (Va s) (tg s.1/\tg s.2.1/\s.2.2.2.2.2=[]/\s.1.length+s.2.1.length<=1000000/\tb s.1+tb s.2.1<=10000000)
  (λr=>r.2.1=s.2.2.2.1/\tg r.2.2.2/\tb r.2.2.2<=tb s.1+tb s.2.1+3/\r.2.2.2.length<=s.1.length+s.2.1.length):=⟨λh=>by
 unfold Va
 refine ug (λ(b,a,_,o,_,d)=>o=s.2.2.2.1/\tg b/\tg a/\tg d/\tb b<=tb s.1/\tb a<=tb s.2.1/\tb d<=tb s.1+tb s.2.1+3/\a.length+b.length+d.length<=s.1.length+s.2.1.length) (λ(b,a,_)=>a.length+b.length) (by grind [tg0]) λ⟨b,a,n,o,c,d⟩ hs => ?_
 have h1:=h.2.2.2
 clear h
 generalize s.2.2.2.1=q at *
 generalize tb s.1=h2 at *
 generalize tb s.2.1=zB at *
 generalize s.1.length=X' at *
 generalize s.2.1.length=Y' at *
 have ka:=zmk a hs.2.2.1
 have kb:=zmk b hs.2.1
 have na:=B0 a hs.2.2.1 0 (Z)
 have nb:=B0 b hs.2.1 0 (Z)
 unfold Vb
 dsimp only at *
 generalize jS (e:=qk) 1 (a.length:Int) a=a' at *
 generalize jS (e:=qk) 1 (b.length:Int) b=b' at *
 generalize nth a 0 (zb qk)=x at *
 generalize nth b 0 (zb qk)=y at *
 exact Fc⟩
instance (a b:vO):Sp (W4 a b) (cg a/\cg b/\a.2.1.length+b.2.1.length<=1000000/\cb a+cb b<=10000000) (λr=>cg r/\cb r<=cb a+cb b+3/\r.2.1.length<=a.2.1.length+b.2.1.length):=⟨λh=>by unfold W4 oZ; exact Fc⟩
instance (k:Lf.Rat) (l:List Term) (s:Int×(Int×Bool×List Int×List Int×Unit)×(Int×Bool×List Int×List Int×Unit)×List Term×List Term):Sp (ZF k l (l.length:Int) s) (s.1=0/\tg l/\rg k/\s.2.2.2.2=[]/\l.length<=1000000/\tb l+rl k<=10000000)
  (λr=>r.2.1=s.2.2.1/\tg r.2.2.2/\tb r.2.2.2<=tb l+rl k+2/\r.2.2.2.length<=l.length):=⟨λh=>by
 unfold ZF
 refine ug (λ(i,_,d,_,a)=>0<=i/\i<=l.length/\d=s.2.2.1/\tg a/\tb a<=tb l+rl k+2/\(a.length:Int)<=i) (λ(i,_)=>(l.length-i).toNat) (by grind [tg0]) λ⟨b,c,d,e,a⟩ hs => ?_
 have kb:=B0 l h.2.1 b hs.1
 unfold ZG
 dsimp only at *
 generalize nth l b (zb qk)=x at *
 exact Fc⟩
instance (a:vO) (k:Lf.Rat):Sp (eb a k) (cg a/\rg k/\a.2.1.length<=1000000/\cb a+rl k<=10000000) (λr=>cg r/\cb r<=cb a+rl k+2/\r.2.1.length<=a.2.1.length):=⟨λh=>by unfold eb oZ; exact Fc⟩
instance (k:Int) (a b:vO):Sp (ZH k a b) (cg a/\cg b/\a.2.1.length+b.2.1.length<=1000000/\cb a+cb b<=1000000) (λr=>cg r.1/\cb r.1<=cb a+cb b+10/\r.1.2.1.length<=a.2.1.length+b.2.1.length):=⟨λh=>by unfold ZH; exact Fc⟩
def rs(l:List Lf.Rat):Prop:=l.length<=1000000000/\∀ x∈l,rg x/\rl x<=1700
theorem DK{l:List Lf.Rat}(h:rs l)(i:Int)(h0:0<=i)(h1:i<l.length):rg (nth l i (zb zm))/\rl (nth l i (zb zm))<=1700:=h.2 _ (xo h0 h1)
instance (l:List Lf.Rat) (i:Int):Sp (mg l i) (rs l) (λr=>rg r/\rl r<=1700/\((∀ x∈l,rl x<=16)->rl r<=16)):=⟨λh=>by
 have:=DK h i
 have X:(∀ x∈l,rl x<=16)->0<=i->i<l.length->rl (nth l i (zb zm))<=16:=λh h0 h1=>h _ (xo h0 h1)
 unfold mg
 exact Fc⟩
def vg(v:wq):Prop:=v.1.length<=20000/\v.2.1.length<=20000/\rs v.2.2.1/\∀ x∈v.2.2.1,rl x<=16
instance (s:zo) (v:wq):Sp (W6 s v) (vg v) (λr=>cg r.1/\cb r.1<=16/\r.1.2.1.length<=1):=⟨λh=>by
 have h1:∀ (i:Int) (a:Lf.Rat),rg a->tg [(i,a,())]/\tb [(i,a,())]=rl a:=λi a h=>⟨λt ht=>W.1 ht▸h,by simp[tb]⟩
 unfold vg at h
 unfold W6
 exact Fc⟩
open T PL
instance (e:Expr) (v:wq):Sp (KZ e v) (EK e/\vg v) (λr=>cg r.1/\cb r.1<=10300/\r.1.2.1.length<=256):=⟨λh=>by
 obtain⟨⟨n,hn,he⟩,hv⟩:=h
 unfold KZ
 refine xv (P:=λr=>∀ n,EO n e->cg r.1/\cb r.1<=40*n/\r.1.2.1.length<=n) ?_ λr hr=>by have:=hr n he; exact⟨this.1,Z,Z⟩
 refine sR (x:=(e,v)) (λ(e,v)=>(∃ n,n<=256/\EO n e)/\vg v) (λ(e,_)=>zT e) (λ(e,_) (r:vO×Int)=>∀ n,EO n e->cg r.1/\cb r.1<=40*n/\r.1.2.1.length<=n) ?_ ?_ ⟨⟨n,hn,he⟩,hv⟩
 ·intro g g' hg x
  unfold ed
  exact mono
 ·intro⟨e,v⟩ ⟨⟨n,hn,he⟩,hv⟩ g hg
  have z:cg (0,[],(false,[],[],()),())/\cb (0,[],(false,[],[],()),())=0:=⟨⟨nofun,XO.1⟩,by simp[cb,tb,XO.2]⟩
  have hq:∀ {n'},EO n' e->n'=n:=λh=>h.uniq he
  suffices (ed (λy0 y1=>g (y0,y1)) e v).wp λr=>cg r.1/\cb r.1<=40*n/\r.1.2.1.length<=n from xv this λr hr n' h=>by rw[hq h]; exact hr
  clear hq
  cases he with
  | num h1 X =>
   unfold ed
   simp only[Expr.kids,Expr.kind,Expr.num,Expr.name]
   exact vy rfl Fc
  | nam h1 =>
   unfold ed
   simp only[Expr.kids,Expr.kind,Expr.num,Expr.name]
   exact wk rfl (vy rfl Fc)
  | @neg m s i a h1 =>
   have ha:Sp (g (a,v)) True (λr=>cg r.1/\cb r.1<=40*i/\r.1.2.1.length<=i):=⟨λ_=>xv (hg (a,v) ⟨⟨i,Z,h1⟩,hv⟩ (by simp<;>omega)) λr hr=>hr i h1⟩
   unfold ed
   simp only[Expr.kids,Expr.kind,Expr.num,Expr.name]
   clear hg
   refine wk rfl (wk rfl (qq ⟨Z,qu⟩ ?_))
   rw[show nth [a] 0 (zb .expr)=a from rfl]
   refine za trivial λr hr=>zf (λ_=>ze ?_) λ_=>vy rfl ?_
   ·grind
   ·exact Fc
  | @bin k m s i j a b h1 X h3 h4 =>
   have ha:Sp (g (a,v)) True (λr=>cg r.1/\cb r.1<=40*i/\r.1.2.1.length<=i):=⟨λ_=>xv (hg (a,v) ⟨⟨i,Z,h3⟩,hv⟩ (by simp<;>omega)) λr hr=>hr i h3⟩
   have J:Sp (g (b,v)) True (λr=>cg r.1/\cb r.1<=40*j/\r.1.2.1.length<=j):=⟨λ_=>xv (hg (b,v) ⟨⟨j,Z,h4⟩,hv⟩ (by simp<;>omega)) λr hr=>hr j h4⟩
   unfold ed
   simp only[Expr.kids,Expr.kind,Expr.num,Expr.name]
   clear hg
   refine wk (wa) (wk (wa) (qq ⟨Z,by simp<;>omega⟩ ?_))
   rw[show nth [a,b] 0 (zb .expr)=a from rfl,show nth [a,b] 1 (zb .expr)=b from rfl]
   refine za trivial λr hr=>zf (λ_=>ze ?_) λ_=>wk (wa) (qq ⟨Z,qu⟩ ?_)
   ·grind
   ·exact Fc⟩
theorem c0:cg (0,[],(false,[],[],()),())/\cb (0,[],(false,[],[],()),())=0:=⟨⟨nofun,XO.1⟩,by simp[cb,tb,XO.2]⟩
instance (e:Expr) (v:wq):Sp (Yu e v) (EW KK e/\vg v) (λr=>cg r.1/\cb r.1<=10300/\r.1.2.1.length<=256):=⟨λh=>by have:=c0; unfold Yu; exact Fc⟩
instance (x:cx) (v:wq):Sp (ZX x v) (EW KK x.2.2.2.1/\EW KK x.2.2.2.2.1/\vg v) (λr=>cg r.1/\cb r.1<=20700/\r.1.2.1.length<=512/\(r.2=0->r.1.1=x.2.1)):=⟨λh=>by unfold ZX; exact Fc⟩
open T PL
theorem sn{α:Type}(l:List α)(i:Int)(d:α):wo l (0+i.toNat) d=nth l i d:=by simp[wo,nth]
instance (a:List Lf.Rat):Sp (bJ a) (a.length<=1000000000) (λr=>r=a):=⟨λh=>by
 unfold bJ
 refine zj ?_ (zj ⟨rfl,rfl,rfl,Z⟩ (zj rfl (ze (qu))))
 rintro rfl r hr
 simpa[T.leads,ub,zu]using hr⟩
instance (a:List Int):Sp (yp a) (a.length<=1000000000) (λr=>r=a):=⟨λh=>by
 unfold yp
 refine zj ?_ (zj ⟨rfl,rfl,rfl,Z⟩ (zj rfl (ze (qu))))
 rintro rfl r hr
 simpa[T.leads,ub,zu]using hr⟩
instance (a:List zo):Sp (wT a) (a.length<=1000000000) (λr=>r=a):=⟨λh=>by
 unfold wT
 refine zj ?_ (zj ⟨rfl,rfl,rfl,Z⟩ (zj rfl (ze (qu))))
 rintro rfl r hr
 simpa[T.leads,ub,zu]using hr⟩
instance (a:List Lf.Rat):Sp (u7 a) (a.length<=1000000000) (λr=>r=a):=⟨λh=>by
 unfold u7
 refine zj ?_ (zj ⟨rfl,rfl,rfl,Z⟩ (uH (Z) (ze rfl)))
 rintro rfl r hr
 simpa[T.leads,ub,zu]using hr⟩
instance (a:List Int):Sp (ua a) (a.length<=1000000000) (λr=>r=a):=⟨λh=>by
 unfold ua
 refine zj ?_ (zj ⟨rfl,rfl,rfl,Z⟩ (uH (Z) (ze rfl)))
 rintro rfl r hr
 simpa[T.leads,ub,zu]using hr⟩
instance (a:List Bool):Sp (vR a) (a.length<=1000000000) (λr=>r=a):=⟨λh=>by
 unfold vR
 refine zj ?_ (zj ⟨rfl,rfl,rfl,Z⟩ (uH (Z) (ze rfl)))
 rintro rfl r hr
 simpa[T.leads,ub,zu]using hr⟩
instance (a:List wz):Sp (uF a) (a.length<=1000000000) (λr=>r=a):=⟨λh=>by
 unfold uF
 refine zj ?_ (zj ⟨rfl,rfl,rfl,Z⟩ (uH (Z) (ze rfl)))
 rintro rfl r hr
 simpa[T.leads,ub,zu]using hr⟩
instance (a:List zo):Sp (wU a) (a.length<=1000000000) (λr=>r=a):=⟨λh=>by
 unfold wU
 refine zj ?_ (zj ⟨rfl,rfl,rfl,Z⟩ (uH (Z) (ze rfl)))
 rintro rfl r hr
 simpa[T.leads,ub,zu]using hr⟩
instance (a:List Rat) (c:Rat->T Bool) (p:Rat->Prop) (P:Rat->Bool->Prop) [∀ x,Sp (c x) (p x) (P x)]:Sp (ye a c) (a.length<=1000000000000/\∀ x∈a,p x) (Bb a P (zb zm)):=⟨ixq⟩
instance (a:List Rat) (c:Rat->T Bool) (p:Rat->Prop) (P:Rat->Bool->Prop) [∀ x,Sp (c x) (p x) (P x)]:Sp (vB a c) (a.length<=1000000000000/\∀ x∈a,p x) (E7 a P):=⟨λh=>cnq (Sp.sp h)⟩
instance (a:List Term) (c:Term->T Bool) (p:Term->Prop) (P:Term->Bool->Prop) [∀ x,Sp (c x) (p x) (P x)]:Sp (kF a c) (a.length<=1000000000000/\∀ x∈a,p x) (Bb a P (zb qk)):=⟨ixq⟩
instance (a:List Term) (c:Term->T Bool) (p:Term->Prop) (P:Term->Bool->Prop) [∀ x,Sp (c x) (p x) (P x)]:Sp (uf a c) (a.length<=1000000000000/\∀ x∈a,p x) (E7 a P):=⟨λh=>cnq (Sp.sp h)⟩
instance (a:List vO) (c:vO->T Bool) (p:vO->Prop) (P:vO->Bool->Prop) [∀ x,Sp (c x) (p x) (P x)]:Sp (bZ a c) (a.length<=1000000000000/\∀ x∈a,p x) (Bb a P (zb zp)):=⟨ixq⟩
instance (a:List vO) (c:vO->T Bool) (p:vO->Prop) (P:vO->Bool->Prop) [∀ x,Sp (c x) (p x) (P x)]:Sp (gu a c) (a.length<=1000000000000/\∀ x∈a,p x) (E7 a P):=⟨λh=>cnq (Sp.sp h)⟩
instance (a:List Field) (c:Field->T Bool) (p:Field->Prop) (P:Field->Bool->Prop) [∀ x,Sp (c x) (p x) (P x)]:Sp (gH a c) (a.length<=1000000000000/\∀ x∈a,p x) (Bb a P (zb qw)):=⟨ixq⟩
instance (a:List wz) (c:wz->T Bool) (p:wz->Prop) (P:wz->Bool->Prop) [∀ x,Sp (c x) (p x) (P x)]:Sp (yG a c) (a.length<=1000000000000/\∀ x∈a,p x) (Bb a P (zb b9)):=⟨ixq⟩
instance (a:List wz) (c:wz->T Bool) (p:wz->Prop) (P:wz->Bool->Prop) [∀ x,Sp (c x) (p x) (P x)]:Sp (uC a c) (a.length<=1000000000000/\∀ x∈a,p x) (E7 a P):=⟨λh=>cnq (Sp.sp h)⟩
instance (l:List Field) (s:Int×List zo):Sp (rM l (l.length:Int) s) (s.1=0/\l.length<=8200/\(∀ x∈l,x.1.length<=KK)/\ss s.2/\s.2.length<=100000) (λr=>ss r/\r.length<=s.2.length+l.length):=⟨λh=>by
 unfold rM rN
 exact rI l (zb qw) (λ(i,_)=>i) _ (λ_=>True) (λ(i,c)=>0<=i/\i<=l.length/\ss c/\(c.length:Int)<=s.2.length+i) h.2.2.1⟩
def ck(c:vO):Prop:=cg c/\cb c<=20700/\c.2.1.length<=512
def Ud(l:List vO):Prop:=l.length<=1000/\∀ c∈l,ck c
def io(n:Int)(l:List Int):Prop:=∀ i∈l,0<=i/\i<n
theorem CN(l:List vO)(c:vO)(h:Ud l)(k:ck c)(B:l.length<=999):Ud (l++[c]):=⟨by simp; omega,jP h.2 k⟩
theorem Df(n:Int)(l:List Int)(i:Int)(h:io n l)(h0:0<=i)(h1:i<n):io n (l++[i]):=jP h ⟨h0,h1⟩
theorem zd6(n:Int)(l:List Int)(h:io n l)(i:Int)(h0:0<=i)(h1:i<l.length):0<=nth l i (zb (.int .i64))/\nth l i (zb (.int .i64))<n:=h _ (xo h0 h1)
theorem WK:Ud []/\∀ n,io n []:=⟨⟨qu,nofun⟩,λ_=>nofun⟩
theorem goe{p:Prop} (h:p:=by
 intros
 repeat' (with_reducible first
  | refine ze ?_
  | refine zf (λ_ => ?_) (λ_ => ?_)
  | refine z8 ?_
  | refine zc ?_
  | refine uH ?_ ?_
  | refine qq ?_ ?_
  | refine vX ?_ ?_
  | refine vq ?_ ?_
  | refine zj ?_ ?_
  | refine vY (λ_ _ => ?_) (λ_ _ => ?_)
  | refine za ?_ (λ_ _ => ?_)
  | refine vG ?_ (λ_ _ => ?_)
  | refine xf ?_
  | dsimp only)
 all_goals grind [xb,uT,jJ,ub,zu,ja,ym,List.length_append,List.length_singleton,CN,Df,WK,ck,WL,E7,Bb]):p:=h
instance (x:Lf.Rat):Sp (cC x) (rg x/\rl x<=1700) (λr=>r=false->rl x<=16):=⟨λh=>by have:nm x↔norm x=x:=Iff.rfl; unfold cC; exact goe⟩
instance (x:Switch) (s:zo):Sp (eo x s) True (λ_=>True):=⟨λ_=>by unfold eo; exact goe⟩
instance (f:Form) (l:List Bool) (s:zo):Sp (Wd f l s) (f.1.length<=8200/\l.length=f.1.length) (λ_=>True):=⟨λh=>by unfold Wd; exact goe⟩
instance (x:Term):Sp (bp x) (rg x.2.1/\rl x.2.1<=50000) (λ_=>True):=⟨λh=>by unfold bp; exact goe⟩
instance (c:vO):Sp (ZW c) (ck c) (λ_=>True):=⟨λh=>by
 have h1:∀ t∈c.2.1,rg t.2.1/\rl t.2.1<=50000:=λt ht=>⟨h.1.1 t ht,by have:=XU ht; have:=h.2.1; unfold cb at this; omega⟩
 have X:=h.1.2
 have h3:rl c.2.2.1<=50000:=by have:=h.2.1; unfold cb at this; omega
 have h4:=h.2.2
 clear h
 unfold ZW
 exact goe⟩
instance (f:Form):Sp (th f) (FV f) (λr=>ss r/\r.length<=8200):=⟨λh=>by
 obtain⟨h1,_,_,h4⟩:=FV.fe h
 unfold th oZ
 exact Fe⟩
instance (l:List Param) (s:Int×(List Lf.Rat×Unit)×(List zo×List Lf.Rat×Unit)×List zo×List zo×List zo):Sp (Xj l (l.length:Int) s) (s.1=0/\l.length<=8200/\s.2.2.2.2.2=[]) (λr=>r.2.1=s.2.2.1/\r.2.2.2.2.length<=8200):=⟨λh=>by
 unfold Xj Xk
 refine ug (λ(i,_,d,_,_,c)=>0<=i/\i<=l.length/\d=s.2.2.1/\(c.length:Int)<=i) (λ(i,_)=>(l.length-i).toNat) (wa) ?_
 exact goe⟩
instance (f:Form) (l:List Lf.Rat):Sp (rL f l) (FV f/\rs l/\∀ x∈l,rl x<=16) (λr=>vg r):=⟨λh=>by
 obtain⟨h1,_⟩:=FV.fe h.1
 have X:l.length<=1000000000:=h.2.1.1
 unfold rL vg
 exact goe⟩
open T PL
def EJ(f:Form)(v:wq)(z:Int)(d:wq)(a:List vO)(b:List Int):Prop:=0<=z/\z<=64/\d=v/\Ud a/\io f.2.2.2.2.1.length b/\a.length=b.length/\(a.length:Int)<=z
theorem goE{p:Prop} (h:p:=by
 intros
 repeat' (with_reducible first
  | refine ze ?_
  | refine zf (λ_ => ?_) (λ_ => ?_)
  | refine z8 ?_
  | refine zc ?_
  | refine uH ?_ ?_
  | refine qq ?_ ?_
  | refine vX ?_ ?_
  | refine vq ?_ ?_
  | refine zj ?_ ?_
  | refine vY (λ_ _ => ?_) (λ_ _ => ?_)
  | refine za ?_ (λ_ _ => ?_)
  | refine vG ?_ (λ_ _ => ?_)
  | refine xf ?_
  | dsimp only)
 all_goals grind [xb,uT,jJ,ub,zu,ja,ym,List.length_append,List.length_singleton,CN,Df,WK,ck,WL,E7,Bb,EJ]):p:=h
instance (o:List Bool) (f:Form) (s:Int×Unit×Unit×wq×List vO×List Int):Sp (rJ o f f.2.2.2.2.1 (f.2.2.2.2.1.length:Int) s) (s.1=0/\FV f/\f.2.2.2.2.1.length<=64/\o.length=f.1.length/\vg s.2.2.2.1/\s.2.2.2.2=([],[]))
  (λr=>match r with | .inl z=>z.2.2.1=s.2.2.2.1/\Ud z.2.2.2.1/\io f.2.2.2.2.1.length z.2.2.2.2/\z.2.2.2.1.length=z.2.2.2.2.length/\z.2.2.2.1.length<=64 | .inr z=>z.2.1≠0):=⟨λh=>by
 have h1:=h.2.1.1.1.1
 have X:∀ x∈f.2.2.2.2.1,EW KK x.2.2.2.1/\EW KK x.2.2.2.2.1:=λx U=>(h.2.1.1.2.2.2.2.1.2 x U).2.2
 obtain⟨h3,_,h4,h5,h6,h7⟩:=h
 unfold rJ
 refine cK f.2.2.2.2.1 (zb xn) (λ(i,_)=>i) _ (λ_=>True) (λ(i,_,_,d,a,b)=>EJ f s.2.2.2.1 i d a b) X ⟨h3,by grind [EJ,WK]⟩ (λ⟨c,l,m,d,a,b⟩ x hj U he h0 B => ?_) λ⟨c,l,m,d,a,b⟩ hj he _ => ?_
 ·have hr:=he▸U
  dsimp only at *
  generalize s.2.2.2.1=v at *
  clear X he U h7 h3
  unfold iP
  exact goE
 ·clear X
  unfold iP
  exact goE⟩
instance (f:Form) (u v:Unit) (e:wq) (a:List vO) (b:List Int):Sp (rK f (a.length:Int) (0,u,v,e,a,b)) (Ud a/\io f.2.2.2.2.1.length b/\a.length=b.length/\a.length<=64)
  (λr=>match r with | .inl z=>z.2.2.2=(a,b) | .inr z=>z.2.1≠0):=⟨λh=>by
 obtain⟨h1,X,h3,h4⟩:=h
 unfold rK
 refine cK a (zb zp) (λ(i,_)=>i) _ (λ_=>True) (λ(i,_,_,_,a',b')=>0<=i/\i<=64/\a'=a/\b'=b) h1.2 ⟨rfl,Z,Z,rfl,rfl⟩ (λ⟨c,l,m,d,a',b'⟩ x ⟨k0,k1,k2,k3⟩ U he h0 B => ?_) λ⟨c,l,m,d,a',b'⟩ ⟨k0,k1,k2,k3⟩ he _ => ?_
 ·subst k2 k3
  have hr:=he▸U
  have hi:=zd6 _ _ X c h0 (by dsimp only at *; omega)
  dsimp only at *
  unfold iQ
  simp only[sn]
  clear h1 X he U
  exact goE
 ·subst k2 k3
  clear h1 X
  unfold iQ
  simp only[sn]
  exact goE⟩
instance (f:Form) (p:List Lf.Rat) (o:List Bool):Sp (nC f p o) (FW 8200 f/\rs p/\o.length<=1000000000)
  (λr=>Ud r.2.2.2.1/\io f.2.2.2.2.1.length r.2.2.2.2/\r.2.2.2.1.length=r.2.2.2.2.length/\r.2.2.2.1.length<=64/\(r.2.2.1=0->FV f/\f.2.2.2.1.length<=64/\f.2.2.2.2.1.length<=64/\p.length=f.2.1.length/\o.length=f.1.length)):=⟨λh=>by
 have h1:p.length<=1000000000/\∀ x∈p,rg x/\rl x<=1700:=h.2.1
 have X:=WK
 unfold nC oZ
 exact goE⟩
end Go.AM.Lf
namespace Go.AM.PL
namespace G
def jn(f:Int->Int)(a b:Int):Int->Int:=λu=>if f u=max (f a) (f b)then min (f a) (f b)else f u
def KT(f:Int->Int)(a:Int):List Int->(Int->Int)×Bool
 | []=>(f,true)
 | b::r=>((KT (jn f a b) a r).1,decide (f a≠f b)&&(KT (jn f a b) a r).2)
def NX(f:Int->Int):List Int->(Int->Int)×Bool
 | []=>(f,true)
 | a::r=>KT f a r
def Uu(f:Int->Int)(i:Int):List (List Int)->Int
 | [] => -1
 | c::r=>if(NX f c).2=true then Uu (NX f c).1 (i+1) r else i
theorem zi4(f:Int->Int)(a b:Int):jn f a b a=jn f a b b:=by unfold jn; grind
theorem NZ{f:Int->Int}{u w:Int}(a b:Int)(h:f u=f w):jn f a b u=jn f a b w:=by unfold jn; rw[h]
theorem G3:∀ (r:List Int) (f:Int->Int) (a u w:Int),f u=f w->(KT f a r).1 u=(KT f a r).1 w
 | [],_,_,_,_,h=>h
 | b::r,f,a,u,w,h=>G3 r (jn f a b) a u w (NZ a b h)
theorem z1S(c:List Int)(f:Int->Int){u w:Int}(h:f u=f w):(NX f c).1 u=(NX f c).1 w:=by
 cases c with
 | nil=>exact h
 | cons a r=>exact G3 r f a u w h
theorem NY:∀ (r:List Int) (f:Int->Int) (a b:Int),b∈r->(KT f a r).1 b=(KT f a r).1 a
 | c::r,f,a,b,h=>by
  rcases zI.1 h with rfl | h
  ·exact G3 r _ a b a (zi4 f a b).symm
  ·exact NY r (jn f a c) a b h
theorem z7y(c:List Int)(f:Int->Int){u w:Int}(hu:u∈c)(hw:w∈c):(NX f c).1 u=(NX f c).1 w:=by
 cases c with
 | nil=>cases hu
 | cons a r =>
  have key:∀ b∈a::r,(KT f a r).1 b=(KT f a r).1 a:=λb h=>by
   rcases zI.1 h with rfl | h
   ·rfl
   ·exact NY r f a b h
  exact(key u hu).trans (key w hw).symm
theorem JI:∀ (r:List Int) (f:Int->Int) (a:Int),(KT f a r).2=true->(∀ b∈r,f a≠f b)/\r.Pairwise λb c=>f b≠f c
 | [],_,_,_=>⟨λb h=>(by cases h),.nil⟩
 | b::r,f,a,h=>by
  unfold KT at h
  simp only[zQ,decide_eq_true_eq]at h
  obtain⟨h1,X⟩:=JI r (jn f a b) a h.2
  have J:∀ c∈r,f a≠f c/\f b≠f c:=λc hc=>by
   have:=h1 c hc
   unfold jn at this
   grind
  refine⟨λc hc => ?_,.cons (λc hc=>(J c hc).2) (X.imp_of_mem λ{c d} hc V g e=>g (NZ a b e))⟩
  rcases zI.1 hc with rfl | hc
  ·exact h.1
  ·exact(J c hc).1
theorem SR{c:List Int}{f:Int->Int}(h:(NX f c).2=true):c.Pairwise λb d=>f b≠f d:=by
 cases c with
 | nil=>exact .nil
 | cons a r=>exact .cons (JI r f a h).1 (JI r f a h).2
def z03(rk:Int->Nat)(cs:List (List Int))(outs:List Int):Prop:=∀ i (h:i<cs.length) (h':i<outs.length),outs[i]∈cs[i]->∀ t∈cs[i],t≠outs[i]->rk t<rk outs[i]
theorem zma:∀ (cs:List (List Int)) (outs:List Int) (f:Int->Int) (i:Int) (TB:Int->Nat) (hl:Nat) (WK:List (List Int)) (Zq:List Int),0<=i->Uu f i cs = -1->WK.length=Zq.length->(∀ v,TB v<=hl) ->
  (∀ c∈WK,∀ u∈c,∀ w∈c,f u=f w)->z03 TB WK Zq->∃ rk:Int->Nat,∃ B',(∀ v,rk v<=B')/\z03 rk (WK++cs) (Zq++outs)
 | [],outs,f,i,TB,hl,WK,Zq,_,_,B,hB,_,hA=>⟨TB,hl,hB,λj h h'=>by
   simp only[zK]at h ⊢
   have e:(Zq++outs)[j]'h'=Zq[j]'(B▸h):=zM _
   rw[e]
   exact hA j h (B▸h)⟩
 | c::cs,[],f,i,TB,hl,WK,Zq,_,_,B,hB,_,hA=>⟨TB,hl,hB,λj h h'=>by
   simp only[zK]at h' ⊢
   have e:(WK++c::cs)[j]'h=WK[j]'(B▸h'):=zM _
   rw[e]
   exact hA j (B▸h') h'⟩
 | c::cs,o::outs,f,i,TB,hl,WK,Zq,hi,hf,B,hB,hc,hA=>by
  unfold Uu at hf
  split at hf
  ·rename_i hk
   have hap:=SR hk
   let rk:Int->Nat:=λu=>TB u+if f u=f o then hl+1 else 0
   have hrk:z03 rk (WK++[c]) (Zq++[o]):=λj h h'=>by
    by_cases hj:j<WK.length
    ·have e1:(WK++[c])[j]'h=WK[j]:=zM hj
     have e2:(Zq++[o])[j]'h'=Zq[j]'(B▸hj):=zM (B▸hj)
     rw[e1,e2]
     intro hm t ht kB
     have h1:=hA j hj (B▸hj) hm t ht kB
     have X:=hc _ (zN hj) t ht _ hm
     show TB t+(if f t=f o then hl+1 else 0)<TB _+(if f _=f o then hl+1 else 0)
     rw[X]; omega
    ·have NQ:j=WK.length:=by simp at h; omega
     subst NQ
     have e1:(WK++[c])[WK.length]'h=c:=qu
     have e2:(Zq++[o])[WK.length]'h'=o:=by simp[B]
     rw[e1,e2]
     intro hm t ht kB
     have TZ:f t≠f o:=by
      obtain⟨p,hp,rfl⟩:=zY ht
      obtain⟨q,hq,rfl⟩:=zY hm
      rcases Nat.lt_trichotomy p q with h3 | h3 | h3
      ·exact qA.1 hap p q hp hq h3
      ·subst h3; exact absurd rfl kB
      ·exact λe=>qA.1 hap q p hq hp h3 e.symm
     show TB t+(if f t=f o then hl+1 else 0)<TB o+(if f o=f o then hl+1 else 0)
     rw[if_neg TZ,if_pos rfl]
     have:=hB t
     omega
   have:=zma cs outs (NX f c).1 (i+1) rk (hl+(hl+1)) (WK++[c]) (Zq++[o]) (Z) hf (by simp[B]) (λv=>by
     show TB v+(if f v=f o then hl+1 else 0)<=_
     have:=hB v
     split<;>omega) (λd V u hu w hw=>by
     rcases zG.1 V with V | V
     ·exact z1S c f (hc d V u hu w hw)
     ·rw[W.1 V]at hu hw; exact z7y c f hu hw) hrk
   simpa using this
  ·omega
end G
end Go.AM.PL
namespace Go.AM.PL
namespace G
structure RL(r:List Int)(f:Int->Int):Prop where
 a:∀ (v:Nat) (h:v<r.length),0<=r[v]/\r[v]<=v
 b:∀ (v:Nat) (h:v<r.length),f r[v]=f v
 c:∀ (v:Nat) (h:v<r.length),r[v]=v->f v=v
theorem RL.at{r:List Int}{f:Int->Int}(H:RL r f){v:Nat}(h:v<r.length):∃ w:Nat,r[v]=(w:Int)/\w<=v/\w<r.length/\f w=f v:=by
 have h1:=H.a v h
 have X:=H.b v h
 refine⟨r[v].toNat,Z,Z,Z,?_⟩
 rw[Int.toNat_of_nonneg h1.1]; exact X
theorem RL.zgW{r:List Int}{f:Int->Int}(H:RL r f){v w:Nat}(h:v<r.length)(hw:r[v]=(w:Int))(hwl:w<r.length):RL (r.set v r[w]) f:=by
 have h1:=H.a v h
 have X:=H.a w hwl
 have h3:=H.b v h
 have h4:=H.b w hwl
 refine⟨λu hu => ?_,λu hu => ?_,λu hu => ?_⟩<;>simp only[List.length_set]at hu<;>rw[qE]
 ·split
  ·omega
  ·exact H.a u hu
 ·split
  ·rename_i e; subst e; rw[h4,<- hw,h3]
  ·exact H.b u hu
 ·split
  ·rename_i e
   subst e
   intro e
   exact H.c v h (Z)
  ·exact H.c u hu
theorem RL.join{r:List Int}{f:Int->Int}(H:RL r f){v w a b:Nat}(ha:f v=(a:Int))(J:f w=(b:Int))(KM:a<r.length)(hbl:b<r.length)(fa:f a=a)(fb:f b=b) :
  RL (r.set (max a b) ((min a b:Nat):Int)) (jn f v w):=by
 have key:∀ u:Int,jn f v w u=if f u=((max a b:Nat):Int)then((min a b:Nat):Int)else f u:=λu=>by unfold jn; rw[ha,J]; split<;>split<;>omega
 have fm:f ((min a b:Nat):Int)=((min a b:Nat):Int):=by rcases Nat.le_total a b with h | h<;>simp[Nat.min_eq_left,Nat.min_eq_right,h,fa,fb]
 have fM:f ((max a b:Nat):Int)=((max a b:Nat):Int):=by rcases Nat.le_total a b with h | h<;>simp[Nat.max_eq_left,Nat.max_eq_right,h,fa,fb]
 refine⟨λu hu => ?_,λu hu => ?_,λu hu => ?_⟩<;>simp only[List.length_set]at hu<;>rw[qE]
 ·split
  ·omega
  ·exact H.a u hu
 ·rw[key,key]
  split
  ·rename_i e; subst e; rw[fm,fM,if_pos rfl]; split<;>rfl
  ·rw[H.b u hu]
 ·rw[key]
  split
  ·rename_i e; subst e; intro e; rw[fM,if_pos rfl]; exact e
  ·rename_i e
   intro h
   rw[H.c u hu h,if_neg (Z)]
end G
end Go.AM.PL
namespace Go.AM.Lf
open T PL
def VC(n:Int)(c:vO):Prop:=0<=c.1/\c.1<=4/\∀ t∈c.2.1,0<=t.1/\t.1<n
def vs(c:vO):List Int:=c.2.1.map (·.1)
theorem EI(c:vO):rl c.2.2.1<=cb c:=by unfold cb; omega
theorem gog{p:Prop} (h:p:=by
 intros
 repeat' (with_reducible first
  | refine ze ?_
  | refine zf (λ_ => ?_) (λ_ => ?_)
  | refine z8 ?_
  | refine zc ?_
  | refine uH ?_ ?_
  | refine qq ?_ ?_
  | refine vX ?_ ?_
  | refine vq ?_ ?_
  | refine zj ?_ ?_
  | refine vY (λ_ _ => ?_) (λ_ _ => ?_)
  | refine za ?_ (λ_ _ => ?_)
  | refine vG ?_ (λ_ _ => ?_)
  | refine xf ?_
  | dsimp only)
 all_goals grind [xb,uT,eY,jJ,ub,zu,ja,ym,List.length_set,WL,lU,Vs]):p:=h
instance (n:Int) (c:vO) (s:Int×Int):Sp (Z3 n c.2.1 (c.2.1.length:Int) s) (s=(0,0)/\n<=1000000/\cg c/\cb c<=1000000/\c.2.1.length<=1000000) (λr=>match r with | .inl _=>∀ t∈c.2.1,0<=t.1/\t.1<n | .inr b=>b=false):=⟨λh=>by
 unfold Z3
 refine cK c.2.1 (zb qk) (λ(_,i)=>i) (λx=>rg x.2.1/\rl x.2.1<=1000000) (λx=>0<=x.1/\x.1<n) (λ(g,i)=>0<=g/\0<=i) (λx U=>⟨h.2.2.1.1 x U,by have:=XU U; have:=h.2.2.2.1; unfold cb at this; omega⟩) (wa) (λ⟨g,i⟩ x hj U he h0 B => ?_) λ⟨g,i⟩ hj he hp => ?_
 ·dsimp only at *
  unfold pO
  dsimp only
  rw[he]
  clear he
  exact gog
 ·dsimp only at *
  unfold pO
  clear h
  exact gog⟩
instance (c:vO) (n:Int):Sp (dz c n) (n<=1000000/\cg c/\cb c<=1000000/\c.2.1.length<=1000000) (λr=>r=true->VC n c):=⟨λh=>by
 have h1:rg c.2.2.1/\rl c.2.2.1<=1000000:=⟨h.2.1.2,by have:=EI c; omega⟩
 have X:0<=c.1->c.1<=4->(∀ t∈c.2.1,0<=t.1/\t.1<n)->VC n c:=λa b d=>⟨a,b,d⟩
 unfold dz
 exact gog⟩
theorem Rm{f:Int->Int}(n:Nat)(v:Int)(r:List Int)(h:G.RL r f/\0<=v/\v<n/\r.length=n):(gi (0,n) v r).wp λ(z:Int×List Int)=>G.RL z.2 f/\z.2.length=n/\z.1=f v/\0<=z.1/\z.1<n/\f z.1=z.1:=by
 unfold gi lW
 refine z8 (z8 (xf ?_))
 refine xv (P:=λ(z:Int×List Int)=>G.RL z.2 f/\z.2.length=n/\z.1=f v/\0<=z.1/\z.1<n/\f z.1=z.1) ?_ λz hz=>z8 (ze hz)
 refine ug (λ(b,c,a)=>b=(0,n)/\G.RL a f/\0<=c/\c<n/\a.length=n/\f c=f v) (λ(_,c,_)=>c.toNat) ⟨rfl,h.1,h.2.1,h.2.2.1,h.2.2.2,rfl⟩ λ⟨b,c,a⟩ ⟨h1,X,h3,h4,h5,h6⟩ => ?_
 subst h1
 obtain⟨k,rfl⟩:=Y h3
 have hk:k<a.length:=Z
 obtain⟨w,hw,hwk,hwl,hfw⟩:=X.at hk
 have e1:wo a (0+qN (k:Int)) (zb (.int .i64))=a[k]:=by simp[wo,hk]
 have e2:wo a (0+qN (w:Int)) (zb (.int .i64))=a[w]:=by simp[wo,hwl]
 unfold cX
 dsimp only
 rw[e1,hw,e2]
 refine zj ⟨Z,Z⟩ (zj ⟨rfl,by simp; omega⟩ (zf (λhn => ?_) λhn => ?_))
 ·have kB:w≠k:=by rintro rfl; simp at hn
  obtain⟨x,U,hxw,IV,hfx⟩:=X.at hwl
  have e3:wo (a.set (0+qN (k:Int)) a[w]) (0+qN (k:Int)) (zb (.int .i64))=a[w]:=by simp[wo,hk]
  rw[e3]
  have hs:(0+qN (k:Int))=k:=Z
  rw[hs]
  refine zj ⟨Z,Z⟩ (zj ⟨rfl,Z⟩ (zj ⟨Z,by simp; omega⟩ (zj ⟨rfl,by simp; omega⟩ (zj ⟨Z,Z⟩ (zj ⟨rfl,Z⟩ (zj ⟨Z,Z⟩ (zj ⟨qu,by simp; omega⟩ (z8 (zj (qu) (ze ?_))))))))))
  dsimp only
  refine⟨⟨rfl,X.zgW hk hw hwl,Z,Z,by simp; omega,?_⟩,Z⟩
  rw[U,hfx,hfw]; exact h6
 ·have:w=k:=by simp at hn; omega
  subst this
  have:=X.c w hk hw
  exact z8 (ze ⟨X,h5,by rw[<- h6,this],Z,Z,this⟩)
theorem z1T{f:Int->Int}(n:Nat)(v w:Int)(r:List Int)(h:G.RL r f/\0<=v/\v<n/\0<=w/\w<n/\r.length=n):(bH (0,n) v w r).wp λz=>G.RL z.2 (G.jn f v w)/\z.2.length=n/\z.1=decide (f v≠f w):=by
 obtain⟨h1,X,h3,h4,h5,h6⟩:=h
 obtain⟨v,rfl⟩:=Y X
 obtain⟨w,rfl⟩:=Y h4
 have h:=qM h1 (qM X (qM h3 (qM h4 (qM h5 h6))))
 unfold bH
 refine z8 (z8 (xf (xv (Rm n (v:Int) r ⟨h.1,h.2.1,h.2.2.1,h.2.2.2.2.2⟩) λz ⟨a1,a2,a3,a4,a5,a6⟩=>zj (Z) (z8 (xf (xv (Rm n (w:Int) z.2 ⟨a1,h.2.2.2.1,h.2.2.2.2.1,a2⟩) λy ⟨b1,b2,b3,b4,b5,b6⟩ => ?_))))))
 have hm:lU z.1 y.1=max z.1 y.1:=by unfold lU; split<;>omega
 have hi:Vs z.1 y.1=min z.1 y.1:=by unfold Vs; split<;>omega
 dsimp only
 rw[hm,hi]
 obtain⟨a,ha⟩:=Y a4
 obtain⟨b,J⟩:=Y b4
 have hj:=b1.join (v:=v) (w:=w) (a:=a) (b:=b) (Z) (Z) (Z) (Z) (by rw[<- ha]; exact a6) (by rw[<- J]; exact b6)
 have e1:0+(max z.1 y.1).toNat=max a b:=Z
 have e2:min z.1 y.1=((min a b:Nat):Int):=Z
 rw[e1,e2]
 refine zj ⟨Z,Z⟩ (zj ⟨Z,Z⟩ (zj (qu) (ze ⟨hj,by simp; omega,?_⟩)))
 rw[a3,b3]
 by_cases e:f v=f w<;>simp[e]
theorem z0X:∀ (a:List (List Int)) (b:List Int) (f:Int->Int) (i:Int),0<=i->G.Uu f i a = -1->G.Uu f i (a++[b])=if(G.NX (a.foldl (λf c=>(G.NX f c).1) f) b).2=true then -1 else i+a.length:=by
 intro a
 induction a with
 | nil=>intro b f i h0 h; simp[G.Uu]
 | cons c a ih =>
  intro b f i h0 h
  unfold G.Uu at h
  rw[List.cons_append]
  unfold G.Uu
  split at h
  ·rename_i e
   rw[if_pos e,ih b _ (i+1) (Z) h,List.foldl_cons]
   simp only[List.length_cons]
   split
   ·rfl
   ·omega
  ·omega
open T PL
theorem z7w(n:Nat)(hn:n<=64)(d:List vO)(m:Int):(oj d m (n:Int) (0,qL n 0)).wp λr=>G.RL r id/\r.length=n:=by
 unfold oj
 refine ug (σ:=Int×List Int) (λ(b,a)=>0<=b/\b<=n/\a.length=n/\∀ (j:Nat) (h:j<a.length),(j:Int)<b->a[j]=j) (λ(b,_)=>(n-b).toNat) ⟨Z,Z,qu,λj h h'=>Z⟩ λ⟨b,a⟩ ⟨h0,h1,X,h3⟩ => ?_
 unfold oo
 refine zf (λh => ?_) λh => ?_
 ·have h:=uY h
  refine qq ⟨Z,Z⟩ (zj ⟨rfl,Z⟩ (uH (qu) (ze ?_)))
  rw[qv (Z) (Z)]
  refine⟨⟨Z,Z,by simp; omega,λj hj J => ?_⟩,by dsimp only; omega⟩
  rw[qE]
  split
  ·omega
  ·exact h3 j (by simpa using hj) (Z)
 ·have h:=hZ h
  exact zc (z8 (ze ⟨⟨λv hv=>by rw[h3 v hv (Z)]; omega,λv hv=>by rw[h3 v hv (Z)],λv hv _=>rfl⟩,X⟩))
theorem z4y(c:vO)(i:Int)(h0:0<=i)(h1:i<c.2.1.length):(vs c)[i.toNat]? = some (nth c.2.1 i (zb qk)).1:=by
 unfold vs nth
 rw[List.getElem?_map,zA,zH (Z)]
 rfl
theorem zcd{f0:Int->Int}(n:Nat)(c:vO)(hc:VC n c)(B:c.2.1.length<=1000)(i first:Int)(k m q)(x5)(row:List Int)(hr:G.RL row f0)(hn:row.length=n) :
  (om k i x5 m q (first,1,row,c)).wp λ(z:Int×List Int×vO)=>G.RL z.2.1 (G.NX f0 (vs c)).1/\z.2.1.length=n/\z.1=if first<0/\(G.NX f0 (vs c)).2=false then i else first:=by
 unfold om
 obtain⟨t,r,hv⟩ | hv:(∃ t r,vs c=t::r)\/vs c=[]:=by cases vs c with | nil=>exact .inr rfl | cons t r=>exact .inl ⟨t,r,rfl⟩
 ·rw[hv]
  have hlen:c.2.1.length=r.length+1:=by have:=congrArg qC hv; unfold vs at this; simpa using this
  have ht:(nth c.2.1 0 (zb qk)).1=t:=by have:=z4y c 0 (Z) (Z); rw[hv]at this; simpa using this.symm
  show(T.loop _ _).wp λ(z:Int×List Int×vO)=>G.RL z.2.1 (G.KT f0 t r).1/\z.2.1.length=n/\z.1=if first<0/\(G.KT f0 t r).2=false then i else first
  refine ug (σ:=Int×Int×List Int×vO) (λ(f,e,a,b)=>b=c/\1<=e/\e<=c.2.1.length/\a.length=n/\∃ g ok,G.RL a g/\(G.KT f0 t r).1=(G.KT g t (r.drop (e-1).toNat)).1/\(G.KT f0 t r).2=(ok&&(G.KT g t (r.drop (e-1).toNat)).2)/\f=if first<0/\ok=false then i else first)
   (λ(_,e,_,_)=>(c.2.1.length-e).toNat) ⟨rfl,Z,Z,hn,f0,true,hr,qu,qu,qu⟩ λ⟨f,e,a,b⟩ ⟨h1,X,h3,h4,g,ok,h5,h6,h7,h8⟩ => ?_
  subst h1
  unfold fh
  refine zf (λh => ?_) λh => ?_
  ·have h:=uY h
   have e0:=(hc.2.2 _ (xo (d:=zb qk) (i:=0) (Z) (Z)))
   have e1:=(hc.2.2 _ (xo (d:=zb qk) (i:=e) (Z) h))
   have V:r.drop (e-1).toNat=(nth b.2.1 e (zb qk)).1::r.drop (e+1-1).toNat:=by
    have:=z4y b e (Z) h
    rw[hv,show e.toNat=(e-1).toNat+1 by omega,List.getElem?_cons_succ]at this
    obtain⟨wO,he⟩:=List.getElem?_eq_some_iff.1 this
    rw[zZ wO,he,show(e+1-1).toNat=(e-1).toNat+1 by omega]
   rw[V]at h6 h7
   rw[ht]at e0
   dsimp only
   rw[ht]
   generalize (nth b.2.1 e (zb qk)).1=w at *
   rw[h4]
   refine xf (qq ⟨Z,Z⟩ (qq ⟨Z,h⟩ (z8 (z8 (xf (xv (z1T n t w a ⟨h5,e0.1,e0.2,e1.1,e1.2,h4⟩) λz hz => ?_))))))
   obtain⟨z1,z2⟩:=z
   obtain⟨k1,k2,k3⟩:=hz
   dsimp only at k1 k2 k3 ⊢
   have hw:ql (e+1)=e+1:=qv (Z) (Z)
   have U:(G.KT g t (w::r.drop (e+1-1).toNat))=((G.KT (G.jn g t w) t (r.drop (e+1-1).toNat)).1,decide (g t≠g w)&&(G.KT (G.jn g t w) t (r.drop (e+1-1).toNat)).2):=rfl
   rw[U]at h6 h7
   have fin:∀ f',(f'=if first<0/\(ok&&decide (g t≠g w))=false then i else first)->f'=f'->b=b/\1<=e+1/\e+1<=b.2.1.length/\z2.length=n/\∃ g ok,G.RL z2 g/\(G.KT f0 t r).1=(G.KT g t (r.drop (e+1-1).toNat)).1/\(G.KT f0 t r).2=(ok&&(G.KT g t (r.drop (e+1-1).toNat)).2)/\f'=if first<0/\ok=false then i else first :=
    λf' hf _=>⟨rfl,Z,Z,k2,_,_,k1,h6,by rw[h7,Bool.and_assoc],hf⟩
   refine zf (λhz => ?_) λhz => ?_
   ·refine zj ⟨k2.symm,rfl,k2.symm⟩ (z8 (ze (zf (λh9 => ?_) λh9 => ?_)))
    ·have h9:=uY h9
     refine zc (z8 (ze ?_))
     rw[hw]
     have e:g t=g w:=by rw[k3]at hz; simpa using hz
     refine⟨fin i ?_ rfl,by dsimp only; omega⟩
     rw[h8]at h9
     simp only[e,ne_eq,not_true_eq_false,decide_false,Bool.and_false,and_true]
     split
     ·rfl
     ·rename_i h10; rw[if_neg (λh=>h10 h.1)]at h9; exact absurd h9 h10
    ·have h9:=hZ h9
     refine zc (z8 (ze ?_))
     rw[hw]
     have e:g t=g w:=by rw[k3]at hz; simpa using hz
     refine⟨fin f ?_ rfl,by dsimp only; omega⟩
     rw[h8]at h9 ⊢
     simp only[e,ne_eq,not_true_eq_false,decide_false,Bool.and_false,and_true]
     by_cases h10:first<0/\ok=false
     ·rw[if_pos h10,if_pos h10.1]
     ·rw[if_neg h10]at h9 ⊢; rw[if_neg h9]
   ·refine zj ⟨k2.symm,rfl,k2.symm⟩ (z8 (ze (zf (λh9=>nomatch h9) λ_ => ?_)))
    refine zc (z8 (ze ?_))
    rw[hw]
    have e:decide (g t≠g w)=true:=by rw[k3]at hz; simpa using hz
    refine⟨fin f ?_ rfl,by dsimp only; omega⟩
    rw[e,Bool.and_true]; exact h8
  ·have h:=hZ h
   rw[qG (Z)]at h6 h7
   refine zc (z8 (ze ⟨by rw[h6]; exact h5,h4,?_⟩))
   rw[h7]
   simpa[G.KT]using h8
 ·rw[hv]
  have hlen:c.2.1.length=0:=by have:=congrArg qC hv; unfold vs at this; simpa using this
  refine ug (λs=>s=(first,1,row,c)) (λ_=>0) rfl λs hs => ?_
  subst hs
  unfold fh
  exact zf (λh=>absurd (uY h) (by rw[hlen]; omega)) λ_=>zc (z8 (ze ⟨hr,hn,by simp[G.NX]⟩))
open T PL
def cw(c:vO):Prop:=cg c/\cb c<=1000000/\c.2.1.length<=1000
def Ac(n:Int)(l:List vO):Prop:=l.length<=1000/\∀ c∈l,cw c/\(dz c n).run=some true
theorem Ac.vc{n:Int}{l:List vO}(h:Ac n l)(hn:n<=64){c:vO}(hc:c∈l):VC n c:=by
 obtain⟨h1,X⟩:=h.2 c hc
 exact VT ((inferInstance:Sp (dz c n) (n<=1000000/\cg c/\cb c<=1000000/\c.2.1.length<=1000000) (λr=>r=true->VC n c)).sp ⟨Z,h1.1,h1.2.1,by have:=h1.2.2; omega⟩) X rfl
instance (l:List vO) (n:Int):Sp (nH l n) (0<=n/\n<=64/\Ac n l) (λr => -1<=r/\r<l.length/\(r<0->G.Uu id 0 (l.map vs) = -1)):=⟨λ⟨h0,h1,X⟩=>by
 obtain⟨n,rfl⟩:=Y h0
 have B:=X.1
 have e1:Vs (lU (n:Int) 0) 64=(n:Int):=by unfold Vs lU; split<;>split<;>omega
 unfold nH Q5
 dsimp only
 rw[e1,zL]
 refine xf (zj ⟨Z,Z,Z,Z⟩ (uH (qu) (xf (xv (z7w n (Z) l n) λrow ⟨a1,a2⟩=>zc (z8 (xf ?_))))))
 refine xv (P:=λ(z:Int×List Int) => -1<=z.1/\z.1<l.length/\(z.1<0->G.Uu id 0 (l.map vs) = -1)) ?_ λz hz=>z8 (ze (ze hz))
 unfold QK
 refine ug (σ:=Int×Int×List Int) (λ(e,b,a)=>0<=b/\b<=l.length/\a.length=n/\G.RL a (((l.take b.toNat).map vs).foldl (λf c=>(G.NX f c).1) id) /\ -1<=e/\e<max b 1/\(e<b)/\(e<0->G.Uu id 0 ((l.take b.toNat).map vs) = -1)) (λ(_,b,_)=>(l.length-b).toNat)
  ⟨Z,Z,a2,by simpa using a1,Z,Z,Z,λ_=>rfl⟩ λ⟨e,b,a⟩ ⟨b0,b1,b2,b3,b4,b5,b6,b7⟩ => ?_
 unfold oq
 refine zf (λh => ?_) λh => ?_
 ·have h:=uY h
  have hm:=xo (d:=zb zp) b0 h
  have hv:=X.vc h1 hm
  obtain⟨k1,k2⟩:=X.2 _ hm
  have ht:=cU l b (zb zp) b0 h
  have hw:ql (b+1)=b+1:=qv (Z) (Z)
  dsimp only
  generalize nth l b (zb zp)=c at *
  refine qq ⟨b0,h⟩ (xf (bB k2 (zf nofun λ_=>zc (z8 (xf (xv (zcd n c hv k1.2.2 b e _ _ _ _ a b3 b2) λz hz => ?_))))))
  obtain⟨z1,z2,z3⟩:=z
  obtain⟨c1,c2,c3⟩:=hz
  refine zc (z8 (ze ?_))
  dsimp only at c1 c2 c3 ⊢
  rw[hw,ht,zR,List.foldl_append]
  refine⟨⟨Z,Z,c2,by simpa using c1,?_,?_,?_,λhz => ?_⟩,Z⟩
  ·rw[c3]; split<;>omega
  ·rw[c3]; split<;>omega
  ·rw[c3]; split<;>omega
  ·rw[c3]at hz
   have he:e<0:=by split at hz<;>omega
   rw[List.map_singleton,z0X _ _ _ _ (Z) (b7 he)]
   split
   ·rfl
   ·rename_i hf
    rw[if_pos ⟨he,by simpa using hf⟩]at hz
    omega
 ·have h:=hZ h
  have e2:l.take b.toNat=l:=zF (Z)
  rw[e2]at b7
  exact zc (z8 (ze ⟨b4,by dsimp only; omega,b7⟩))⟩
instance (l:List vO) (n:Int):Sp (pw l n) (0<=n/\n<=64/\Ac n l) (λr=>r=true->G.Uu id 0 (l.map vs) = -1):=⟨λh=>by unfold pw; exact gog⟩
open T PL
def mx(S:Int->Int)(v w:Int)(l:List Term):Int:=l.foldl (λw t=>if t.1=v then w else max w (S t.1)) w
theorem UI{S S':Int->Int}{v:Int}:∀ (l:List Term) (w:Int),(∀ t∈l,t.1≠v->S t.1=S' t.1)->mx S v w l=mx S' v w l
 | [],_,_=>rfl
 | t::r,w,h=>by
  show mx S v (if t.1=v then w else max w (S t.1)) r=mx S' v (if t.1=v then w else max w (S' t.1)) r
  rw[UI r _ λu hu=>h u (I _ hu)]
  by_cases e:t.1=v
  ·rw[if_pos e,if_pos e]
  ·rw[if_neg e,if_neg e,h t zE e]
abbrev di:Int:=zb (.int .i64)
structure Ch(n:Nat)(l:List vO)(o b:List Int):Prop where
 ac:Ac n l
 n1:1<=n
 n64:n<=64
 fr:G.Uu id 0 (l.map vs) = -1
 ol:o.length=l.length
 bl:b.length=n
 oc:∀ i:Int,0<=i->i<l.length->nth o i di = -1\/(nth o i di∈vs (nth l i (zb zp))/\nth b (nth o i di) di=i)
 bc:∀ v:Int,0<=v->v<n->nth b v di = -1\/(0<=nth b v di/\nth b v di<l.length/\nth o (nth b v di) di=v)
theorem iX{c:vO}{v:Int}:v∈vs c↔∃ t∈c.2.1,t.1=v:=by unfold vs; simp
theorem Ch.vr{n:Nat}{l:List vO}{o b:List Int}(h:Ch n l o b){i:Int}(h0:0<=i)(h1:i<l.length){v:Int}(hv:v∈vs (nth l i (zb zp))):0<=v/\v<n:=by
 obtain⟨t,ht,rfl⟩:=iX.1 hv
 exact(h.ac.vc (by have:=h.n64; omega) (xo h0 h1)).2.2 t ht
theorem Ri{l:List vO}{o:List Int}(hf:G.Uu id 0 (l.map vs) = -1):∃ (rk:Int->Nat) (hl:Nat),(∀ v,rk v<=hl)/\∀ i:Int,0<=i->i<l.length->i<o.length->nth o i di∈vs (nth l i (zb zp))->∀ t∈vs (nth l i (zb zp)),t≠nth o i di->rk t<rk (nth o i di):=by
 obtain⟨rk,hl,hB,hA⟩:=G.zma (l.map vs) o id 0 (λ_=>0) 0 [] [] (Z) hf rfl (λ_=>zS _) (λc hc=>by cases hc) (λi h=>by cases h)
 simp only[List.nil_append]at hA
 refine⟨rk,hl,hB,λi h0 h1 X hm t ht kB => ?_⟩
 obtain⟨k,rfl⟩:=Y h0
 have hk:k<l.length:=Z
 have Yb:k<o.length:=Z
 have e1:nth o (k:Int) di=o[k]:=by simp[nth,Yb]
 have e2:nth l (k:Int) (zb zp)=l[k]:=by simp[nth,hk]
 rw[e1]at hm kB ⊢
 rw[e2]at hm ht
 exact hA k (by simpa using hk) Yb (by simpa using hm) t (by simpa using ht) kB
def sN(l:List vO)(b:List Int):Nat->Int->Int
 | 0,_=>4
 | k+1,v=>if nth b v di = -1 then 4 else mx (sN l b k) v (nth l (nth b v di) (zb zp)).1 (nth l (nth b v di) (zb zp)).2.1
def Sg(n:Nat)(l:List vO)(b:List Int)(S:Int->Int):Prop:=∀ v:Int,0<=v->v<n->S v=if nth b v di = -1 then 4 else mx S v (nth l (nth b v di) (zb zp)).1 (nth l (nth b v di) (zb zp)).2.1
def Rk(n:Nat)(l:List vO)(b:List Int)(rk:Int->Nat):Prop:=∀ v:Int,0<=v->v<n->nth b v di ≠ -1->∀ t∈vs (nth l (nth b v di) (zb zp)),t≠v->rk t<rk v
theorem Ch.rk{n:Nat}{l:List vO}{o b:List Int}(h:Ch n l o b):∃ (rk:Int->Nat) (hl:Nat),(∀ v,rk v<=hl)/\Rk n l b rk:=by
 obtain⟨rk,hl,hB,hr⟩:=Ri (o:=o) h.fr
 refine⟨rk,hl,hB,λv h0 h1 J t ht kB => ?_⟩
 rcases h.bc v h0 h1 with e | ⟨b0,b1,b2⟩
 ·exact absurd e J
 ·have hm:nth o (nth b v di) di∈vs (nth l (nth b v di) (zb zp)):=by
   rcases h.oc _ b0 b1 with e | e
   ·rw[e]at b2; omega
   ·exact e.1
  have:=hr _ b0 b1 (by rw[h.ol]; exact b1) hm t ht (by rw[b2]; exact kB)
  rwa [b2]at this
theorem Ch.sg{n:Nat}{l:List vO}{o b:List Int}(h:Ch n l o b):∃ S,Sg n l b S:=by
 obtain⟨rk,hl,hB,hr⟩:=h.rk
 have more:∀ (k:Nat) (v:Int),0<=v->v<n->rk v<k->sN l b (k+1) v=sN l b k v:=by
  intro k
  induction k with
  | zero=>intro v _ _ hk; omega
  | succ k ih =>
   intro v h0 h1 hk
   show(if nth b v di = -1 then 4 else _)=(if nth b v di = -1 then 4 else _)
   by_cases e:nth b v di = -1
   ·rw[if_pos e,if_pos e]
   ·rw[if_neg e,if_neg e]
    refine UI _ _ λt ht kB => ?_
    have hm:t.1∈vs (nth l (nth b v di) (zb zp)):=iX.2 ⟨t,ht,rfl⟩
    rcases h.bc v h0 h1 with e' | ⟨b0,b1,_⟩
    ·exact absurd e' e
    ·have hv:=h.vr b0 b1 hm
     exact ih t.1 hv.1 hv.2 (by have:=hr v h0 h1 e t.1 hm kB; omega)
 refine⟨sN l b (hl+1),λv h0 h1 => ?_⟩
 rw[<- more (hl+1) v h0 h1 (by have:=hB v; omega)]
 rfl
open T PL
theorem z0N{α:Type}(l:List α)(i:Int)(d:α)(h0:0<=i)(h:i<l.length):l.drop i.toNat=nth l i d::l.drop (i+1).toNat:=by
 have e:(i+1).toNat=i.toNat+1:=Z
 rw[zZ (Z),e]
 unfold nth
 simp[zA,show i.toNat<l.length by omega]
theorem z9e(a b:Int):lU a b=max a b:=by unfold lU; split<;>omega
theorem Cb{n:Nat}{l:List vO}{o b:List Int}(h:Ch n l o b){S:Int->Int}(hS:Sg n l b S){rk:Int->Nat}(hr:Rk n l b rk)(v:Int)(hv:0<=v/\v<n) :
  (jT v (l,()) o b).wp λr=>r=(S v,(l,()),o,b):=by
 unfold jT
 refine sR (x:=(v,(l,()),o,b)) (σ:=Int×(List vO×Unit)×List Int×List Int) (ρ:=Int×(List vO×Unit)×List Int×List Int) (λ(v,c,x,y)=>(c=(l,())/\x=o/\y=b)/\0<=v/\v<n) (λ(v,_)=>rk v) (λ(v,_) r=>r=(S v,(l,()),o,b)) ?_ ?_ ⟨⟨rfl,rfl,rfl⟩,hv⟩
 ·intro g g' hg x
  unfold jc bj kC
  exact mono
 ·rintro⟨v,c,x,y⟩ ⟨⟨rfl,rfl,rfl⟩,hv⟩ g hg
  dsimp only at hg hv ⊢
  unfold jc
  simp only[sn]
  have hs:=hS v hv.1 hv.2
  refine qq ⟨hv.1,by rw[h.bl]; exact hv.2⟩ (zj ⟨rfl,by rw[h.bl]; omega⟩ (zf (λe => ?_) λe => ?_))
  ·rw[if_pos (by simpa using e)]at hs
   exact zc (zc (z8 (z8 (ze (by rw[hs])))))
  ·have e:¬ nth y v di = -1:=by simpa using e
   rw[if_neg e]at hs
   rcases h.bc v hv.1 hv.2 with k | ⟨b0,b1,_⟩
   ·exact absurd k e
   have D6:=hr v hv.1 hv.2 e
   have hvr:=λt ht=>h.vr b0 b1 (v:=t) ht
   have hlen:(nth l (nth y v di) (zb zp)).2.1.length<=1000:=(h.ac.2 _ (xo b0 b1)).1.2.2
   generalize hc:nth l (nth y v di) (zb zp)=c at *
   refine qq ⟨b0,b1⟩ (qq ⟨b0,b1⟩ (zc (zc (z8 (z8 (xf ?_))))))
   refine xv (P:=λz=>z=(S v,(l,()),x,y)) ?_ λz hz=>by subst hz; exact zc (zc (z8 (z8 (ze rfl))))
   unfold bj
   refine ug (σ:=Int×Int×(List vO×Unit)×List Int×List Int) (λ(f,i,q,a,d)=>(q=(l,())/\a=x/\d=y)/\0<=i/\i<=c.2.1.length/\mx S v f (c.2.1.drop i.toNat)=S v) (λ(_,i,_)=>(c.2.1.length-i).toNat) ⟨⟨rfl,rfl,rfl⟩,Z,Z,hs.symm⟩ ?_
   rintro⟨f,i,q,a,d⟩ ⟨⟨rfl,rfl,rfl⟩,i0,i1,hm⟩
   unfold kC
   refine zf (λhi => ?_) λhi => ?_
   ·have hi:=uY hi
    rw[z0N _ _ (zb qk) i0 hi]at hm
    have ht:=xo (d:=zb qk) i0 hi
    have hw:ql (i+1)=i+1:=qv (Z) (Z)
    dsimp only
    generalize nth c.2.1 i (zb qk)=t at *
    have hm:mx S v (if t.1=v then f else max f (S t.1)) (c.2.1.drop (i+1).toNat)=S v:=hm
    have htv:t.1∈vs c:=iX.2 ⟨t,ht,rfl⟩
    refine qq ⟨i0,hi⟩ (zf (λe => ?_) λe => ?_)
    ·have e:t.1≠v:=by simpa using e
     rw[if_neg e]at hm
     refine zc (zc (z8 (z8 (xf (xv (hg (t.1,(l,()),a,d) ⟨⟨rfl,rfl,rfl⟩,hvr _ htv⟩ (D6 _ htv e)) λz hz => ?_)))))
     subst hz
     refine zc (zc (z8 (z8 (ze ?_))))
     rw[hw,z9e]
     refine⟨⟨⟨rfl,rfl,rfl⟩,?_,?_,hm⟩,?_⟩<;>clear hs D6 hvr hm<;>simp only<;>omega
    ·have e:t.1=v:=by simpa using e
     rw[if_pos e]at hm
     refine zc (zc (z8 (z8 (ze ?_))))
     rw[hw]
     refine⟨⟨⟨rfl,rfl,rfl⟩,?_,?_,hm⟩,?_⟩<;>clear hs D6 hvr hm<;>simp only<;>omega
   ·have hi:=hZ hi
    rw[qG (Z)]at hm
    exact zc (zc (z8 (z8 (ze (by have:f=S v:=hm; rw[this])))))
def Wk1(S:Int->Int)(taken:List Int)(w:Int)(l:List Term)(j:Int):Prop:=(j = -1/\∀ t∈l,t.1∈taken\/S t.1<=w)\/((∃ t∈l,t.1=j)/\j ∉ taken/\w<S j/\∀ t∈l,t.1∈taken\/S t.1<=S j)
theorem N6{n:Nat}{l:List vO}{o b:List Int}(h:Ch n l o b){S:Int->Int}(hS:Sg n l b S){rk:Int->Nat}(hr:Rk n l b rk)(i:Int)(hi:0<=i/\i<l.length)(q:List Int) :
  (yw i (l,()) q o b).wp λr=>r.2=((l,()),q,o,b)/\Wk1 S q (nth l i (zb zp)).1 (nth l i (zb zp)).2.1 r.1:=by
 unfold yw
 have hvr:=λt ht=>h.vr hi.1 hi.2 (v:=t) ht
 have hlen:(nth l i (zb zp)).2.1.length<=1000:=(h.ac.2 _ (xo hi.1 hi.2)).1.2.2
 dsimp only
 generalize nth l i (zb zp)=c at *
 refine qq hi (qq hi (zc (zc (z8 (z8 (xf ?_))))))
 refine xv (P:=λz=>z.2=((l,()),q,o,b)/\Wk1 S q c.1 c.2.1 z.1) ?_ λz hz=>by
  obtain⟨z1,z2⟩:=z
  obtain⟨rfl,hz⟩:=hz
  exact zc (zc (z8 (z8 (ze ⟨rfl,hz⟩))))
 unfold eF
 refine ug (σ:=Int×Int×Int×(List vO×Unit)×List Int×List Int×List Int) (λ(j,k,i,q',g,a,d)=>(q'=(l,())/\g=q/\a=o/\d=b)/\0<=i/\i<=c.2.1.length/\(j = -1/\k=c.1\/j ≠ -1/\k=S j)/\Wk1 S q c.1 (c.2.1.take i.toNat) j) (λ(_,_,i,_)=>(c.2.1.length-i).toNat)
  ⟨⟨rfl,rfl,rfl,rfl⟩,Z,Z,.inl ⟨rfl,rfl⟩,.inl ⟨rfl,λt ht=>by simp at ht⟩⟩ ?_
 rintro⟨j,k,i,q',g,a,d⟩ ⟨⟨rfl,rfl,rfl,rfl⟩,i0,i1,hk,hw⟩
 unfold gE
 refine zf (λhi => ?_) λhi => ?_
 ·have hi:=uY hi
  have ht:=xo (d:=zb qk) i0 hi
  have hts:=cU c.2.1 i (zb qk) i0 hi
  have hwi:ql (i+1)=i+1:=qv (Z) (Z)
  dsimp only
  generalize nth c.2.1 i (zb qk)=t at *
  have htr:=hvr _ (iX.2 ⟨t,ht,rfl⟩)
  refine qq ⟨i0,hi⟩ (zc (zc (z8 (z8 (xf (xv (Cb h hS hr t.1 htr) λz hz => ?_))))))
  subst hz
  have hwf:wfI t.1:=by
   have:=h.n64
   have:=htr.1
   have:=htr.2
   show(decide (-9223372036854775808<=t.1)&&decide (t.1<=9223372036854775807))=true
   rw[zQ,decide_eq_true_eq,decide_eq_true_eq]; exact⟨zO (qj) htr.1,zO (qF htr.2) (Z)⟩
  refine zj hwf (zf (λe=>zc (zc (z8 (z8 (ze ?_))))) λe=>zc (zc (z8 (z8 (ze ?_)))))
  ·simp only[zQ,Bool.not_eq_true',decide_eq_true_eq,zV,decide_eq_false_iff_not]at e
   rw[hwi]
   have zul:=htr.1
   have e2:=e.2
   refine⟨⟨⟨rfl,rfl,rfl,rfl⟩,by simp only; omega,by simp only; omega,.inr ⟨by simp only; omega,rfl⟩,?_⟩,by simp only; omega⟩
   show Wk1 S g c.1 (c.2.1.take (i+1).toNat) t.1
   rw[hts]
   refine .inr ⟨⟨t,qu,rfl⟩,e.1,?_,λu hu => ?_⟩
   ·rcases hk with⟨_,hk⟩ | ⟨hj,hk⟩
    ·omega
    ·rcases hw with hw | hw
     ·exact absurd hw.1 hj
     ·have:=hw.2.2.1; omega
   ·rcases zG.1 hu with hu | hu
    ·rcases hk with⟨hj,hk⟩ | ⟨hj,hk⟩
     ·rcases hw with hw | hw
      ·exact(hw.2 u hu).imp_right λx=>Z
      ·obtain⟨u',SL,e'⟩:=hw.1
       exfalso
       have:=hvr _ (iX.2 ⟨u',zP SL,rfl⟩)
       have e3:u'.1=j:=e'
       have e4:j = -1:=hj
       rw[e3,e4]at this
       exact absurd this.1 (qj)
     ·rcases hw with hw | hw
      ·exact absurd hw.1 hj
      ·exact(hw.2.2.2 u hu).imp_right λx=>Z
    ·rw[W.1 hu]; exact .inr (qJ _)
  ·simp only[Bool.and_eq_false_iff,Bool.not_eq_false',decide_eq_false_iff_not,zV,decide_eq_true_eq]at e
   rw[hwi]
   refine⟨⟨⟨rfl,rfl,rfl,rfl⟩,by simp only; omega,by simp only; omega,hk,?_⟩,by simp only; omega⟩
   show Wk1 S g c.1 (c.2.1.take (i+1).toNat) j
   rw[hts]
   rcases hw with hw | hw
   ·refine .inl ⟨hw.1,λu hu => ?_⟩
    rcases zG.1 hu with hu | hu
    ·exact hw.2 u hu
    ·rw[W.1 hu]
     rcases hk with hk | hk
     ·exact e.imp_right λx=>Z
     ·exact absurd hw.1 hk.1
   ·refine .inr ⟨by obtain⟨u,hu,e'⟩:=hw.1; exact⟨u,by simp[hu],e'⟩,hw.2.1,hw.2.2.1,λu hu => ?_⟩
    rcases zG.1 hu with hu | hu
    ·exact hw.2.2.2 u hu
    ·rw[W.1 hu]
     rcases hk with hk | hk
     ·obtain⟨u',SL,e'⟩:=hw.1
      exfalso
      have:=hvr _ (iX.2 ⟨u',zP SL,rfl⟩)
      have e3:u'.1=j:=e'
      have e4:j = -1:=hk.1
      rw[e3,e4]at this
      exact absurd this.1 (qj)
     ·exact e.imp_right λx=>Z
 ·have hi:=hZ hi
  rw[zF (Z)]at hw
  exact zc (zc (z8 (z8 (ze ⟨rfl,hw⟩))))
open T PL
abbrev tr(l:List vO)(i:Int):Int:=(nth l i (zb zp)).1
abbrev tm(l:List vO)(i:Int):List Term:=(nth l i (zb zp)).2.1
abbrev vl(l:List vO)(i:Int):List Int:=vs (nth l i (zb zp))
def sU:List vO->List Int->Int
 | c::l,w::o=>(if w = -1 then 0 else 5-c.1)+sU l o
 | _,_=>0
theorem DE:∀ (l:List vO) (o:List Int) (k:Nat) (w:Int),k<l.length->k<o.length->sU l (o.set k w)=sU l o+(if w = -1 then 0 else 5-(l.getD k (zb zp)).1)-(if o.getD k di = -1 then 0 else 5-(l.getD k (zb zp)).1)
 | c::l,x::o,0,w,_,_=>by simp only[List.set_cons_zero,sU,List.getD_cons_zero]; omega
 | c::l,x::o,k+1,w,h,h'=>by
  have:=DE l o k w (by simpa using h) (by simpa using h')
  simp only[List.set_cons_succ,sU,List.getD_cons_succ]
  omega
theorem z3S:∀ (l:List vO) (o:List Int),(∀ c∈l,0<=c.1/\c.1<=4)->0<=sU l o/\sU l o<=5*l.length
 | [],[],_ | [],_::_,_ | _::_,[],_=>by simp only[sU,qC]; omega
 | c::l,x::o,h=>by
  have h1:=z3S l o λc hc=>h c (I _ hc)
  obtain⟨X,h3⟩:=h c zE
  have X:(0:Int)<=c.1:=X
  have h3:(4:Int) >= c.1:=h3
  simp only[sU,List.length_cons]
  split<;>omega
theorem VF{α:Type}{l:List α}{i j:Int}{x d:α}(h0:0<=i)(h1:i<l.length)(h:0<=j):nth (l.set (0+i.toNat) x) j d=if j=i then x else nth l j d:=by
 unfold nth
 rw[zA,List.getElem?_set,zA]
 by_cases e:j=i
 ·rw[if_pos (Z),if_pos (Z),if_pos e]; rfl
 ·rw[if_neg (Z),if_neg e]
theorem z0C{p q:Nat->Bool}{a:Nat}:∀ (l:List Nat),(∀ x,q x=true->p x=true)->a∈l->p a=true->q a=false->l.countP q<l.countP p
 | x::l,h,ha,h1,X=>by
  rw[List.countP_cons,List.countP_cons]
  have hle:l.countP q<=l.countP p:=List.countP_mono_left λx _=>h x
  rcases zI.1 ha with rfl | hm
  ·rw[h1,X]; simp only[if_true,Bool.false_eq_true,if_false]; exact Nat.lt_succ_of_le hle
  ·have:=z0C l h hm h1 X
   cases hq:q x
   ·rw[if_neg (qj)]; omega
   ·rw[h x hq,if_pos rfl]; omega
def un(n:Nat)(s:List Int):Nat:=(List.range n).countP λ(v:Nat) => !s.contains (v:Int)
theorem zmm{n:Nat}{s s':List Int}{j:Int}(hs:∀ x∈s,x∈s')(h:j∈s')(h':j ∉ s)(h0:0<=j)(h1:j<n):un n s'<un n s:=by
 obtain⟨k,rfl⟩:=Y h0
 refine z0C (a:=k) _ (λx U => ?_) (List.mem_range.2 (Z)) (by simpa using h') (by simpa using h)
 simp only[Bool.not_eq_true',zV,decide_eq_false_iff_not]at U ⊢
 exact λk=>U (hs _ k)
theorem z3h{S:Int->Int}{v M:Int}:∀ (l:List Term) (w:Int),w<=M->(∀ t∈l,t.1≠v->S t.1<=M)->mx S v w l<=M
 | [],_,h,_=>h
 | t::r,w,h,k=>by
  refine z3h r _ ?_ λu hu=>k u (I _ hu)
  dsimp only
  split
  ·exact h
  ·have:=k t zE ‹_›
   omega
section
variable {n:Nat} {l:List vO} {o b o2 b2:List Int} {c j:Int}
theorem Ch.step(h:Ch n l o b)(c0:0<=c)(c1:c<l.length)(ho:nth o c di = -1)(hj:j∈vl l c)(l2:o2.length=l.length)
  (e2:∀ k:Int,0<=k->k<l.length->nth o2 k di=if k=c then j else if k=nth b j di then -1 else nth o k di) (l3:b2.length=n) (e3:∀ v:Int,0<=v->nth b2 v di=if v=j then c else nth b v di):Ch n l o2 b2:=by
 have Ea:=h.vr c0 c1 hj
 have hbj:=h.bc j Ea.1 Ea.2
 refine⟨h.ac,h.n1,h.n64,h.fr,l2,l3,λi i0 i1 => ?_,λv v0 v1 => ?_⟩
 ·rw[e2 i i0 i1]
  by_cases k:i=c
  ·rw[if_pos k,e3 j Ea.1,if_pos rfl,k]; exact .inr ⟨hj,rfl⟩
  ·rw[if_neg k]
   by_cases k':i=nth b j di
   ·rw[if_pos k']; exact .inl rfl
   ·rw[if_neg k']
    refine(h.oc i i0 i1).imp_right λ⟨m,e⟩=>⟨m,?_⟩
    rw[e3 _ (h.vr i0 i1 m).1,if_neg (λx=>k' (by rw[<- x,e]))]
    exact e
 ·rw[e3 v v0]
  by_cases k:v=j
  ·rw[if_pos k,e2 c c0 c1,if_pos rfl]; exact .inr ⟨c0,c1,k.symm⟩
  ·rw[if_neg k]
   refine(h.bc v v0 v1).imp_right λ⟨b0,b1,e⟩=>⟨b0,b1,?_⟩
   rw[e2 _ b0 b1,if_neg (λx=>by rw[x,ho]at e; omega),if_neg (λx => ?_)]
   ·exact e
   ·rcases hbj with y | y
    ·rw[x,y]at b0; exact absurd b0 (qj)
    ·exact k (by rw[<- e,x,y.2.2])
theorem z9X(h:Ch n l o b){rk:Int->Nat}(hr:Rk n l b rk){S S':Int->Int}(hS:Sg n l b S)(e3:∀ v:Int,0<=v->nth b2 v di=if v=j then c else nth b v di)(hS':Sg n l b2 S') :
  ∀ (k:Nat) (u:Int),0<=u->u<n->rk u<k->rk u<rk j->S' u=S u:=by
 intro k
 induction k with
 | zero=>intro u _ _ h; omega
 | succ k ih =>
  intro u u0 u1 hk hj
  have e:nth b2 u di=nth b u di:=by rw[e3 u u0,if_neg (λx=>by rw[x]at hj; omega)]
  rw[hS' u u0 u1,hS u u0 u1,e]
  by_cases x:nth b u di = -1
  ·rw[if_pos x,if_pos x]
  ·rw[if_neg x,if_neg x]
   refine UI _ _ λt ht kB => ?_
   have hm:=iX.2 ⟨t,ht,rfl⟩
   rcases h.bc u u0 u1 with y | ⟨b0,b1,_⟩
   ·exact absurd y x
   ·have hv:=h.vr b0 b1 hm
    have:=hr u u0 u1 x t.1 hm kB
    exact ih t.1 hv.1 hv.2 (Z) (Z)
def TK(l:List vO)(o s:List Int)(v:Int):Prop:=∀ rk:Int->Nat,(∀ m:Int,0<=m->m<l.length->nth o m di∈s->∀ t∈vl l m,t≠nth o m di->rk t<rk (nth o m di))->∀ u∈s,rk u<=rk v
theorem TK.free{s:List Int}{v:Int}(k:TK l o s v)(h:Ch n l o b)(hs:∀ x∈s,0<=x/\x<n)(c0:0<=c)(c1:c<l.length)(ho:nth o c di = -1)(hv:v∈vl l c){t:Int}(ht:t∈vl l c)(kB:t≠v):t ∉ s:=λhts=>by
 obtain⟨rk,hl,_,hr⟩:=Ri (o:=o.set (0+c.toNat) t) h.fr
 have hol:=h.ol
 have hc:nth (o.set (0+c.toNat) t) c di=t:=by rw[VF c0 (Z) c0,if_pos rfl]
 have h1:=hr c c0 c1 (by rw[List.length_set]; omega) (by rw[hc]; exact ht) v hv (by rw[hc]; exact kB.symm)
 rw[hc]at h1
 have X:=k rk (λm m0 m1 hm u hu kB => ?_) t hts
 ·omega
 ·have hmc:m≠c:=λx=>by rw[x,ho]at hm; exact absurd (hs _ hm).1 (qj)
  have e:nth (o.set (0+c.toNat) t) m di=nth o m di:=by rw[VF c0 (Z) m0,if_neg hmc]
  have:=hr m m0 m1 (by rw[List.length_set]; omega)
  rw[e]at this
  refine this ?_ u hu kB
  rcases h.oc m m0 m1 with x | x
  ·rw[x]at hm; exact absurd (hs _ hm).1 (qj)
  ·exact x.1
theorem TK.step{s:List Int}(h:Ch n l o b)(hs:∀ x∈s,0<=x/\x<n)(c0:0<=c)(c1:c<l.length)(ho:nth o c di = -1)(hj:j∈vl l c)(hjs:j ∉ s)
  (e2:∀ k:Int,0<=k->k<l.length->nth o2 k di=if k=c then j else if k=nth b j di then -1 else nth o k di) (hk:s=[]\/∃ v∈vl l c,TK l o s v):TK l o2 (s++vl l c) j:=λrk hrk=>by
 have hc:∀ t∈vl l c,rk t<=rk j:=λt ht=>by
  by_cases e:t=j
  ·rw[e]; exact zS _
  ·have:=hrk c c0 c1
   rw[e2 c c0 c1,if_pos rfl]at this
   exact Nat.le_of_lt (this (qI _ hj) t ht e)
 intro u hu
 rcases zG.1 hu with hu | hu
 ·rcases hk with rfl | ⟨v,hv,hk⟩
  ·cases hu
  ·refine qO (hk rk (λm m0 m1 hm => ?_) u hu) (hc v hv)
   have hmc:m≠c:=λx=>by rw[x,ho]at hm; exact absurd (hs _ hm).1 (qj)
   have hmb:m≠nth b j di:=λx=>by
    have Ea:=h.vr c0 c1 hj
    rcases h.bc j Ea.1 Ea.2 with y | y
    ·rw[x,y]at m0; exact absurd m0 (qj)
    ·rw[x,y.2.2]at hm; exact hjs hm
   have:=hrk m m0 m1
   rw[e2 m m0 m1,if_neg hmc,if_neg hmb]at this
   exact this (qK _ hm)
 ·exact hc u hu
end
theorem zbu{t:Int}(h : -9223372036854775808<=t)(h':t<=9223372036854775807):wfI t:=by
 show(decide (-9223372036854775808<=t)&&decide (t<=9223372036854775807))=true
 rw[zQ,decide_eq_true_eq,decide_eq_true_eq]
 exact⟨h,h'⟩
theorem z0O(p:Int)(e:List Term)(L:List vO)(o b s:List Int)(he:∀ t∈e,0<=t.1/\t.1<64)(B:s.length+e.length<=4294967295) :
  (yX p e (Nat.cast (qC e):Int) (0,((L,()),(o,(b,s))))).wp λr=>r=((L,()),o,b,s++e.map (·.1)):=by
 unfold yX
 refine ug (σ:=Int×(List vO×Unit)×List Int×List Int×List Int) (λ(i,q,x,y,z)=>(q=(L,())/\x=o/\y=b/\z=s++(e.take i.toNat).map (·.1))/\0<=i/\i<=e.length) (λ(i,_)=>(e.length-i).toNat) ⟨⟨rfl,rfl,rfl,qu⟩,Z,Z⟩ ?_
 rintro⟨i,q,x,y,z⟩ ⟨⟨rfl,rfl,rfl,rfl⟩,i0,i1⟩
 unfold yZ
 refine zf (λhi => ?_) λhi => ?_
 ·have hi:=uY hi
  have ht:=he _ (xo (d:=zb qk) i0 hi)
  have hts:=cU e i (zb qk) i0 hi
  have hwi:ql (i+1)=i+1:=qv (Z) (Z)
  refine qq ⟨i0,hi⟩ (zj ⟨rfl,?_,?_⟩ (zc (zc (z8 (z8 (ze ?_))))))
  ·exact zbu (zO (qj) ht.1) (zO (qF ht.2) (qj))
  ·rw[List.length_append,List.length_map,List.length_take]; omega
  ·rw[hwi]
   refine⟨⟨⟨rfl,rfl,rfl,?_⟩,Z,Z⟩,by simp only; omega⟩
   rw[hts,zR,qB]
   rfl
 ·have hi:=hZ hi
  rw[zF (Z)]
  exact zc (zc (z8 (z8 (ze rfl))))
theorem zci{n:Nat}{l:List vO}{o b:List Int}(h:Ch n l o b){c:Int}(hc:0<=c/\c<l.length)(ho:nth o c di = -1) :
  (y6 c (l,()) o b).wp λr=>r.1=(l,())/\Ch n l r.2.1 r.2.2/\(r.2.1=o/\r.2.2=b\/sU l o<sU l r.2.1):=by
 unfold y6 dB
 have hn:=h.n64
 refine zc (zc (z8 (z8 (xf (xv (P:=λz=>z.elim (λ(p,x,y,_)=>p=(l,())/\Ch n l x y/\(x=o/\y=b\/sU l o<sU l x)) (λ(p,x,y,_)=>p=(l,())/\Ch n l x y/\(x=o/\y=b\/sU l o<sU l x))) ?_ λz hz => ?_)))))
 case refine_2 =>
  rcases z with⟨p,x,y,s⟩ | ⟨p,x,y,s⟩<;>obtain⟨rfl,hz⟩:=hz<;>exact zc (zc (z8 (z8 (ze ⟨rfl,hz⟩))))
 refine ug (σ:=Int×(List vO×Unit)×List Int×List Int×List Int) (λ(i,p,x,y,s)=>p=(l,())/\Ch n l x y/\(∀ u∈s,0<=u/\u<n)/\s.length+1000*un n s<=1000*n /\
   (i = -1/\sU l o<sU l x\/(0<=i/\i<l.length/\nth x i di = -1)/\(i=c/\x=o/\y=b/\s=[]\/∃ (v M:Int),v∈vl l i/\TK l x s v/\tr l c<M/\sU l x=sU l o+tr l i-tr l c/\∀ S,Sg n l y S->M<=mx S v (tr l i) (tm l i))))
  (λ(_,_,_,_,s)=>un n s) ⟨rfl,h,nofun,?_,.inr ⟨⟨hc.1,hc.2,ho⟩,.inl ⟨rfl,rfl,rfl,rfl⟩⟩⟩ ?_
 ·have:un n []<=n:=qO qH (by rw[List.length_range]; exact zS _)
  simp only[List.length_nil]; omega
 rintro⟨i,p,x,y,s⟩ ⟨rfl,hC,hs,B,hI⟩
 unfold yY
 simp only[sn]
 refine zf (λhi => ?_) λhi => ?_
 ·have hi:i ≠ -1:=by simpa using hi
  obtain⟨⟨i0,i1,U⟩,hI⟩:=hI.resolve_left λk=>hi k.1
  obtain⟨S,hS⟩:=hC.sg
  obtain⟨rk,hl,_,hr⟩:=hC.rk
  refine zc (zc (z8 (z8 (xf (xv (N6 hC hS hr i ⟨i0,i1⟩ s) ?_)))))
  rintro⟨j,q⟩ ⟨rfl,hw⟩
  dsimp only
  have hw:Wk1 S s (tr l i) (tm l i) j:=hw
  have mem:∀ t∈tm l i,t.1∈vl l i:=λt ht=>iX.2 ⟨t,ht,rfl⟩
  refine zf (λe => ?_) λe => ?_
  ·have e:j = -1:=by simpa using e
   refine zc (zc (z8 (z8 (ze ⟨rfl,hC,?_⟩))))
   rcases hI with⟨_,h1,X,_⟩ | ⟨v,M,hv,hk,hM,hp,hm⟩
   ·exact .inl ⟨h1,X⟩
   ·have h1:=hm S hS
    have X:mx S v (tr l i) (tm l i)<=tr l i:=z3h _ _ (qJ _) λt ht kB=>by
     rcases hw with hw | ⟨⟨u,hu,e'⟩,_⟩
     ·exact(hw.2 t ht).resolve_left (hk.free hC hs i0 i1 U hv (mem t ht) kB)
     ·have:=hC.vr i0 i1 (mem u hu)
      rw[e',e]at this
      exact absurd this.1 (qj)
    exact .inr (by show sU l o<sU l x; omega)
  ·have e:j ≠ -1:=by simpa using e
   obtain⟨⟨t,ht,htj⟩,hjs,wO,hmax⟩:=hw.resolve_left λk=>e k.1
   have hj:j∈vl l i:=htj▸mem t ht
   have Ea:=hC.vr i0 i1 hj
   have hbj:=hC.bc j Ea.1 Ea.2
   have hol:=hC.ol
   have hbl:=hC.bl
   have hVC:=hC.ac.vc (Z) (xo (d:=zb zp) i0 i1)
   have htm:(tm l i).length<=1000:=(hC.ac.2 _ (xo i0 i1)).1.2.2
   have hun:un n (s++vl l i)<un n s:=zmm (λu hu=>qK _ hu) (qI _ hj) hjs Ea.1 Ea.2
   refine qq ⟨Ea.1,Z⟩ (zj ⟨rfl,Z⟩ (xf (xv (P:=λz=>∃ o1,z=((l,()),o1,y,s)/\o1.length=x.length/\(∀ k:Int,0<=k->k<l.length->nth o1 k di=if k=nth y j di then -1 else nth x k di)/\sU l o1=sU l x-if nth y j di = -1 then 0 else 5-tr l (nth y j di)) ?_ ?_)))
   ·refine zf (λe => ?_) λe => ?_
    ·have e:nth y j di ≠ -1:=by simpa using e
     obtain⟨b0,b1,b2⟩:=hbj.resolve_left e
     have hbi:nth y j di<x.length:=Z
     have hbx:0+(nth y j di).toNat<x.length:=Z
     refine qq ⟨b0,hbi⟩ (zj ⟨rfl,hbx⟩ (zj ⟨by rw[List.length_set],rfl,by rw[List.length_set]⟩ (zc (zj (by rw[List.length_set]) (z8 (ze ⟨_,rfl,by rw[List.length_set],λk k0 k1=>VF b0 hbi k0,?_⟩))))))
     have:=DE l x (0+(nth y j di).toNat) (-1) (Z) (Z)
     rw[this,if_pos rfl,if_neg e,if_neg (show ¬ x.getD (0+(nth y j di).toNat) di = -1 by
      have:x.getD (0+(nth y j di).toNat) di=j:=by rw[Nat.zero_add]; exact b2
      rw[this]; omega),Nat.zero_add]
     show sU l x+0-(5-tr l (nth y j di))=_
     omega
    ·have e:nth y j di = -1:=by simpa using e
     exact zc (zc (z8 (z8 (ze ⟨x,rfl,rfl,λk k0 k1=>by rw[e,if_neg (Z)],by rw[if_pos e]; omega⟩))))
   ·rintro _ ⟨o1,rfl,hl1,he1,hp1⟩
    dsimp only
    have e2:∀ k:Int,0<=k->k<l.length->nth (o1.set (0+i.toNat) j) k di=if k=i then j else if k=nth y j di then -1 else nth x k di:=λk k0 k1=>by rw[VF i0 (Z) k0,he1 k k0 k1]
    have e3:∀ v:Int,0<=v->nth (y.set (0+j.toNat) i) v di=if v=j then i else nth y v di:=λv v0=>VF Ea.1 (Z) v0
    have hib:i≠nth y j di:=λk=>by
     rcases hbj with k' | ⟨_,_,k'⟩
     ·omega
     ·rw[<- k,U]at k'; omega
    have hp2:sU l (o1.set (0+i.toNat) j)=sU l o1+(5-tr l i):=by
     have:=DE l o1 (0+i.toNat) j (Z) (Z)
     rw[this,if_neg e,if_pos (show o1.getD (0+i.toNat) di = -1 by
      rw[Nat.zero_add]; exact(he1 i i0 i1).trans (by rw[if_neg hib,U])),Nat.zero_add]
     show _+(5-tr l i)-0=_
     omega
    have hsl:s.length+(tm l i).length<=4294967295:=Z
    refine qq ⟨i0,Z⟩ (zj ⟨rfl,Z⟩ (qq ⟨Ea.1,Z⟩ (zj ⟨rfl,Z⟩ (qq ⟨i0,i1⟩ (zj ⟨by rw[List.length_set],rfl,by rw[List.length_set]⟩ (zj ⟨by rw[List.length_set],rfl,by rw[List.length_set]⟩ (zj (by rw[List.length_set]) (zj (by rw[List.length_set]) (xf (xv (z0O _ _ l _ _ s ?_ ?_) ?_))))))))))
    ·exact λt ht=>by
      have:=hVC.2.2 t ht
      exact⟨this.1,Int.lt_of_lt_of_le this.2 (Z)⟩
    ·exact hsl
    rintro _ rfl
    have hC2:=hC.step i0 i1 U hj (by rw[List.length_set]; omega) e2 (by rw[List.length_set]; omega) e3
    have zti:(0:Int)<=tr l i:=hVC.1
    have ztj:(4:Int) >= tr l i:=hVC.2.1
    refine zc (zc (z8 (z8 (ze ⟨⟨rfl,hC2,λu hu=>(zG.1 hu).elim (hs u) λk=>hC.vr i0 i1 k,?_,?_⟩,hun⟩))))
    ·show(s++vl l i).length+1000*un n (s++vl l i)<=_
     have:(vl l i).length<=1000:=by unfold vl vs; rw[List.length_map]; exact htm
     rw[List.length_append]; omega
    ·have hM:∃ M:Int,tr l c<M/\M<=S j/\sU l x=sU l o+(if nth o i di = -1/\x=o/\i=c then 0 else tr l i-tr l c):=by
      rcases hI with⟨h1,X,_,_⟩ | ⟨v,M,hv,hk,hM,hp,hm⟩
      ·exact⟨S j,h1▸wO,qJ _,by rw[if_pos ⟨X▸U,X,h1⟩,X]; omega⟩
      ·refine⟨M,hM,zO (hm S hS) (z3h _ _ (qF wO) λt ht kB=>(hmax t ht).resolve_left (hk.free hC hs i0 i1 U hv (mem t ht) kB)),?_⟩
       rw[hp]
       split
       ·rename_i k; rw[k.2.2]; omega
       ·omega
     obtain⟨M,hM,hMj,hpx⟩:=hM
     have hpx:sU l x=sU l o+tr l i-tr l c:=by
      rw[hpx]
      split
      ·rename_i k; rw[k.2.2]; omega
      ·omega
     by_cases e':nth y j di = -1
     ·rw[if_pos e']at hp1
      refine .inl ⟨e',?_⟩
      have:tr l c<=4:=(h.ac.vc (Z) (xo (d:=zb zp) hc.1 hc.2)).2.1
      show sU l o<sU l (o1.set (0+i.toNat) j)
      omega
     ·rw[if_neg e']at hp1
      obtain⟨b0,b1,b2⟩:=hbj.resolve_left e'
      have hjv:j∈vl l (nth y j di):=by
       rcases hC.oc _ b0 b1 with k | k
       ·rw[b2]at k; exact absurd k e
       ·rw[b2]at k; exact k.1
      refine .inr ⟨⟨b0,b1,by show nth _ (nth y j di) di = -1; rw[e2 _ b0 b1,if_neg (λk=>hib k.symm),if_pos rfl]⟩,.inr ⟨j,M,hjv,TK.step hC hs i0 i1 U hj hjs e2 (hI.imp (λk=>k.2.2.2) λ⟨v,_,hv,hk,_⟩=>⟨v,hv,hk⟩),hM,?_,λS' hS' => ?_⟩⟩
      ·show sU l (o1.set (0+i.toNat) j)=sU l o+tr l (nth y j di)-tr l c
       omega
      ·refine zO hMj (Int.le_of_eq ?_)
       rw[hS j Ea.1 Ea.2,if_neg e']
       refine UI _ _ λt ht kB => ?_
       have hm:=iX.2 ⟨t,ht,rfl⟩
       have hv:=hC.vr b0 b1 hm
       exact(z9X hC hr hS e3 hS' _ t.1 hv.1 hv.2 (Nat.lt_succ_self _) (hr j Ea.1 Ea.2 e' t.1 hm kB)).symm
 ·have hi:i = -1:=by simpa using hi
  refine zc (zc (z8 (z8 (ze ⟨rfl,hC,?_⟩))))
  rcases hI with⟨_,h1⟩ | ⟨⟨h0,_⟩,_⟩
  ·exact .inr h1
  ·omega
open T PL
def Sb(a r:List Int):Prop:=r.length=a.length/\∀ x∈r,x∈a
def ins(l:List vO)(a:List Int):Prop:=∀ x∈a,0<=x/\x<l.length
theorem p0(a:List Int):Sb a a:=⟨rfl,λ_ h=>h⟩
theorem z0d(a r:List Int)(h:Sb a r):r.length=a.length:=h.1
theorem zah(a b r:List Int)(h:Sb a b)(k:Sb b r):Sb a r:=⟨k.1.trans h.1,λx U=>h.2 x (k.2 x U)⟩
theorem UR{a:List Int}{i:Nat}{d:Int}(h:i<a.length):wo a i d∈a:=by
 unfold wo
 rw[zA,zH h]
 exact zN h
theorem zfm(a r:List Int)(i j:Nat)(d e:Int)(h:Sb a r)(hi:i<r.length)(hj:j<r.length):Sb a ((r.set i (wo r j d)).set j (wo r i e)):=by
 refine⟨by simpa using h.1,λx U=>h.2 x ?_⟩
 rcases zJ U with k | rfl
 ·rcases zJ k with k | rfl
  ·exact k
  ·exact UR hj
 ·exact UR hi
theorem Xt(l:List vO)(a r:List Int)(h:Sb a r)(k:ins l a):ins l r:=λx U=>k x (h.2 x U)
theorem Uz(l:List vO)(a:List Int)(i:Nat)(h:ins l a)(hi:i<a.length):0<=wo a i (zb (.int .i64))/\wo a i (zb (.int .i64))<l.length:=h _ (UR hi)
theorem Gs(x:Int)(h:0<=x)(h':x<=2000000):ql (jx .u64 (wm x) 1)=x / 2:=by
 have e:wm x=x:=by rw[IH]; omega
 rw[e,show jx .u64 x 1=x / 2 from ?_,qv (Z) (Z)]
 show Int.fdiv x (2 ^ 1)=_
 rw[Int.fdiv_eq_ediv_of_nonneg _ (qj)]
 rfl
theorem lR{p:Prop} (h:p:=by
 intros
 repeat' (with_reducible first
  | refine ze ?_
  | refine zf (λ_ => ?_) (λ_ => ?_)
  | refine z8 ?_
  | refine zc ?_
  | refine uH ?_ ?_
  | refine qq ?_ ?_
  | refine vX ?_ ?_
  | refine vq ?_ ?_
  | refine zj ?_ ?_
  | refine vY (λ_ _ => ?_) (λ_ _ => ?_)
  | refine za ?_ (λ_ _ => ?_)
  | refine vG ?_ (λ_ _ => ?_)
  | refine xf ?_
  | dsimp only)
 all_goals grind [xb,uT,ja,List.length_set,p0,z0d,zah,zfm,Xt,Uz,Gs]):p:=h
instance (b c:Int) (l:List vO):Sp (wA b c l) (0<=b/\b<l.length/\0<=c/\c<l.length) (λ_=>True):=⟨λh=>by unfold wA cmp_Compare_int cmp_isNaN_int; exact lR⟩
section
variable (l:List vO)
instance (d:Nat×Nat) (c e:Int) (a:List Int):Sp (vd d c e (λz0 z1=>wA z0 z1 l) a) (d=(0,a.length)/\a.length<=1000/\ins l a/\0<=c/\c<=100000/\e<=a.length) (λr=>Sb a r):=⟨λ⟨h0,h1,X,h3,h4,h5⟩=>by
 subst h0
 have L:∀ (i:Int) (x:List Int),Sp (uN c e (λz0 z1=>wA z0 z1 l) i ((0,a.length),(i,x))) (Sb a x/\c<=i/\i<a.length) (λr=>r.1=(0,a.length)/\Sb a r.2):=λi x=>⟨λh=>by
  unfold uN
  refine ug (λ(p,j,b)=>p=(0,a.length)/\c<=j/\j<a.length/\Sb a b) (λ(_,j,_)=>(j-c).toNat) ⟨rfl,h.2.1,h.2.2,h.1⟩ ?_
  rintro⟨p,j,b⟩ ⟨rfl,hj,NQ,J⟩
  have B:=J.1
  have hn:∀ k:Nat,k<a.length->0<=wo b k (zb (.int .i64))/\wo b k (zb (.int .i64))<l.length:=λk hk=>Uz l b k (Xt l a b J X) (Z)
  unfold uP
  clear h X
  exact lR⟩
 unfold vd yr
 refine z8 (z8 (xf (xv (P:=λr=>Sb a r) ?_ λr hr=>z8 (ze hr))))
 refine ug (λ(p,j,b)=>p=(0,a.length)/\c<=j/\j<=200000/\Sb a b) (λ(_,j,_)=>(e-j).toNat) ⟨rfl,by grind [ja],by grind [ja],p0 a⟩ ?_
 rintro⟨p,j,b⟩ ⟨rfl,hj,NQ,J⟩
 have B:=J.1
 unfold uO
 exact lR⟩
instance (d:Nat×Nat) (x y n:Int) (g:Int->Int->T Int) (a:List Int):Sp (va d x y n g a) (d=(0,a.length)/\a.length<=1000/\0<=x/\0<=y/\0<=n/\x+n<=a.length/\y+n<=a.length) (λr=>Sb a r):=⟨λ⟨h0,h⟩=>by
 subst h0
 unfold va b8
 refine z8 (z8 (xf (xv (P:=λr=>Sb a r) ?_ λr hr=>z8 (ze hr))))
 refine ug (λ(p,j,b)=>p=(0,a.length)/\0<=j/\j<=n/\Sb a b) (λ(_,j,_)=>(n-j).toNat) ⟨rfl,Z,Z,p0 a⟩ ?_
 rintro⟨p,j,b⟩ ⟨rfl,hj,NQ,J⟩
 have B:=J.1
 unfold jD
 exact lR⟩
instance (d:Nat×Nat) (x m y:Int) (g:Int->Int->T Int) (a:List Int):Sp (jB d x m y g a) (d=(0,a.length)/\a.length<=1000/\0<=x/\x<m/\m<y/\y<=a.length) (λr=>Sb a r):=⟨λ⟨h0,h⟩=>by
 subst h0
 have L:∀ (i j:Int),Sp (kR m g ((0,a.length),(i,(j,a)))) (0<i/\i<=m/\0<j/\j+m<=a.length) (λr=>r.1=(0,a.length)/\Sb a r.2.2/\0<r.2.1/\r.2.1<=m/\r.2.1+m<=a.length):=λi j=>⟨λk=>by
  unfold kR
  refine ug (λ(p,i,j,b)=>p=(0,a.length)/\0<i/\i<=m/\0<j/\j+m<=a.length/\Sb a b) (λ(_,i,j,_)=>(i+j).toNat) ⟨rfl,k.1,k.2.1,k.2.2.1,k.2.2.2,p0 a⟩ ?_
  rintro⟨p,i,j,b⟩ ⟨rfl,hi,Ya,hj,NQ,J⟩
  clear k
  have B:=J.1
  unfold kS
  exact lR⟩
 unfold jB
 exact lR⟩
end
open T PL
section
variable (l:List vO)
instance (g:(Nat×Nat)->Int->Int->Int->(List vO)->(List Int)->T (List Int)) (f i j:Int) (d:Nat×Nat) (a:List Int):Sp (ui g f l (d,(i,(j,a)))) (d=(0,a.length)/\a.length<=1000/\ins l a/\0<=i/\i<=j/\j<=a.length/\0<=f/\f<a.length) (λr=>r.1=d/\i<=r.2.1/\r.2.1<=j/\r.2.2=a):=⟨λ⟨h0,h1,X,h3,h4,h5⟩=>by
 subst h0
 unfold ui
 refine ug (λ(p,x,y,b)=>p=(0,a.length)/\i<=x/\x<=y/\y<=j/\b=a) (λ(_,x,y,_)=>(y-x).toNat) ⟨rfl,Z,h4,Z,rfl⟩ ?_
 rintro⟨p,x,y,b⟩ ⟨rfl,U,hy,hj,rfl⟩
 have hm:=Gs (x+y) (Z) (Z)
 have hw:ql (x+y)=x+y:=qv (Z) (Z)
 have hn:∀ k:Nat,k<b.length->0<=wo b k (zb (.int .i64))/\wo b k (zb (.int .i64))<l.length:=λk hk=>Uz l b k X hk
 unfold uq
 clear X
 dsimp only
 rw[hw,hm]
 exact lR⟩
instance (g:(Nat×Nat)->Int->Int->Int->(List vO)->(List Int)->T (List Int)) (f i j:Int) (d:Nat×Nat) (a:List Int):Sp (uk g f l (d,(i,(j,a)))) (d=(0,a.length)/\a.length<=1000/\ins l a/\0<=i/\i<=j/\j<=a.length/\0<=f/\f<a.length) (λr=>r.1=d/\i<=r.2.1/\r.2.1<=j/\r.2.2=a):=⟨λ⟨h0,h1,X,h3,h4,h5⟩=>by
 subst h0
 unfold uk
 refine ug (λ(p,x,y,b)=>p=(0,a.length)/\i<=x/\x<=y/\y<=j/\b=a) (λ(_,x,y,_)=>(y-x).toNat) ⟨rfl,Z,h4,Z,rfl⟩ ?_
 rintro⟨p,x,y,b⟩ ⟨rfl,U,hy,hj,rfl⟩
 have hm:=Gs (x+y) (Z) (Z)
 have hw:ql (x+y)=x+y:=qv (Z) (Z)
 have hn:∀ k:Nat,k<b.length->0<=wo b k (zb (.int .i64))/\wo b k (zb (.int .i64))<l.length:=λk hk=>Uz l b k X hk
 unfold uu
 clear X
 dsimp only
 rw[hw,hm]
 exact lR⟩
instance (g:(Nat×Nat)->Int->Int->Int->(List vO)->(List Int)->T (List Int)) (x1 x2 x3 m n f i j:Int) (d:Nat×Nat) (a:List Int):Sp (uo g x1 x2 x3 l m n f (d,(i,(j,a)))) (d=(0,a.length)/\a.length<=1000/\ins l a/\0<=i/\i<=j/\j<=a.length/\j-1<=f/\f-i<a.length) (λr=>r.1=d/\i<=r.2.1/\r.2.1<=j/\r.2.2=a):=⟨λ⟨h0,h1,X,h3,h4,h5⟩=>by
 subst h0
 unfold uo
 refine ug (λ(p,x,y,b)=>p=(0,a.length)/\i<=x/\x<=y/\y<=j/\b=a) (λ(_,x,y,_)=>(y-x).toNat) ⟨rfl,Z,h4,Z,rfl⟩ ?_
 rintro⟨p,x,y,b⟩ ⟨rfl,U,hy,hj,rfl⟩
 have hm:=Gs (x+y) (Z) (Z)
 have hw:ql (x+y)=x+y:=qv (Z) (Z)
 have hn:∀ k:Nat,k<b.length->0<=wo b k (zb (.int .i64))/\wo b k (zb (.int .i64))<l.length:=λk hk=>Uz l b k X hk
 unfold uw
 clear X
 dsimp only
 rw[hw,hm]
 exact lR⟩
instance (g:(Nat×Nat)->Int->Int->Int->(List vO)->(List Int)->T (List Int)) (f i:Int) (d:Nat×Nat) (a:List Int):Sp (uj g f (d,(i,a))) (d=(0,a.length)/\a.length<=1000/\0<=i/\i<=a.length/\0<=f/\f<=a.length) (λr=>Sb a r):=⟨λ⟨h0,h⟩=>by
 subst h0
 unfold uj
 refine ug (λ(p,x,b)=>p=(0,a.length)/\i<=x/\x<=a.length/\Sb a b) (λ(_,x,_)=>(f-x).toNat) ⟨rfl,Z,Z,p0 a⟩ ?_
 rintro⟨p,x,b⟩ ⟨rfl,U,hj,J⟩
 have B:=J.1
 unfold ur
 exact lR⟩
instance (g:(Nat×Nat)->Int->Int->Int->(List vO)->(List Int)->T (List Int)) (f i:Int) (d:Nat×Nat) (a:List Int):Sp (um g f (d,(i,a))) (d=(0,a.length)/\a.length<=1000/\0<=i/\i<a.length/\0<=f/\f<=a.length) (λr=>Sb a r):=⟨λ⟨h0,h⟩=>by
 subst h0
 unfold um
 refine ug (λ(p,x,b)=>p=(0,a.length)/\0<=x/\x<a.length/\Sb a b) (λ(_,x,_)=>(x-f).toNat) ⟨rfl,Z,Z,p0 a⟩ ?_
 rintro⟨p,x,b⟩ ⟨rfl,U,hj,J⟩
 have B:=J.1
 unfold uv
 exact lR⟩
end
open T PL
section
variable (l:List vO)
instance (d:Nat×Nat) (x m y:Int) (a:List Int):Sp (vW d x m y l a) (d=(0,a.length)/\a.length<=1000/\ins l a/\0<=x/\x<m/\m<y/\y<=a.length) (λr=>Sb a r):=⟨λ⟨h0,h1,X,h3⟩=>by
 subst h0
 unfold vW
 refine sR (x:=((0,a.length),x,m,y,l,a)) (σ:=(Nat×Nat)×Int×Int×Int×List vO×List Int) (ρ:=List Int) (λ(d,x,m,y,q,a)=>(d=(0,a.length)/\q=l)/\a.length<=1000/\ins l a/\0<=x/\x<m/\m<y/\y<=a.length) (λ(_,x,_,y,_)=>(y-x).toNat) (λ(_,_,_,_,_,a) r=>Sb a r) ?_ ?_ ⟨⟨rfl,rfl⟩,h1,X,h3⟩
 ·intro g g' hg z
  unfold vC ui uj uk um uo uq ur uu uv uw
  exact mono
 ·rename_i U
  clear U h1 X h3 x m y a
  rintro⟨d,x,m,y,q,a⟩ ⟨⟨rfl,rfl⟩,h1,X,h3,h4,h5,h6⟩ g hg
  dsimp only at h1 X h3 h4 h5 h6 hg ⊢
  unfold vC
  have hm:=Gs (x+y) (Z) (Z)
  have hw:ql (x+y)=x+y:=qv (Z) (Z)
  have H:∀ (d:Nat×Nat) (x' m' y':Int) (b:List Int),Sp (g (d,x',m',y',q,b)) (d=(0,a.length)/\Sb a b/\0<=x'/\x'<m'/\m'<y'/\y'<=a.length/\y'-x'<y-x) (λr=>Sb a r):=λd x' m' y' b=>⟨λ⟨k0,k1,k⟩=>xv (hg (d,x',m',y',q,b) ⟨⟨by rw[k0,k1.1],rfl⟩,by rw[k1.1]; exact h1,Xt q a b k1 X,k.1,k.2.1,k.2.2.1,by rw[k1.1]; exact k.2.2.2.1⟩ (by show(y'-x').toNat<(y-x).toNat; omega)) λr hr=>zah a b r k1 hr⟩
  clear hg
  dsimp only
  rw[hw,hm]
  clear hm hw
  refine zf (λe => ?_) λe=>zf (λe' => ?_) λe' => ?_
  ·clear H; exact lR
  ·clear H; exact lR
  ·refine zj (qj) (z8 (z8 (za ?_ ?_)))
   ·clear H; cases J:decide ((x+y) / 2<m)<;>grind [ja,p0]
   ·rintro⟨p,i,b⟩ ⟨rfl,hi,hj,J⟩
    have J:b=a:=J
    subst J
    dsimp only at hi hj ⊢
    have Ya:x<=i/\i<=(x+y) / 2+m-(x+y) / 2/\(x+y) / 2+m-i<=y/\(i<m/\m<(x+y) / 2+m-i->True):=by
     clear H
     cases J:decide ((x+y) / 2<m)<;>grind [ja]
    have hr:=p0 b
    clear hi hj
    exact lR⟩
instance (d:Nat×Nat) (c:Int) (a:List Int):Sp (jC d c l a) (d=(0,a.length)/\a.length<=1000/\ins l a/\c=a.length) (λr=>Sb a r):=⟨λ⟨h0,h1,X,h3⟩=>by
 subst h0 h3
 have L0:∀ x y,Sp (kT (a.length:Int) l 20 ((0,a.length),(x,(y,a)))) (x=0/\y=20) (λr=>r.1=(0,a.length)/\0<=r.2.1/\r.2.1<=2000/\Sb a r.2.2):=λx y=>⟨λ⟨k,k'⟩=>by
  subst k k'
  unfold kT
  refine ug (λ(p,i,j,b)=>p=(0,a.length)/\0<=i/\i<=2000/\0<=j/\j<=2000/\Sb a b) (λ(_,_,j,_)=>(2000-j).toNat) ⟨rfl,qj,qj,qj,qj,p0 a⟩ ?_
  rintro⟨p,i,j,b⟩ ⟨rfl,hi,Ya,hj,NQ,J⟩
  have B:=J.1
  have JE:=Xt l a b J X
  unfold kW
  exact lR⟩
 have L2:∀ s x y b,Sp (kV (a.length:Int) l s ((0,a.length),(x,(y,b)))) (x=0/\y=2*s/\0<s/\s<=2000/\Sb a b) (λr=>r.1=(0,a.length)/\0<=r.2.1/\r.2.1<=10000/\Sb a r.2.2):=λs x y b=>⟨λ⟨k,k',k1,k2,k3⟩=>by
  subst k k'
  unfold kV
  refine ug (λ(p,i,j,b)=>p=(0,a.length)/\0<=i/\i<=10000/\j=i+2*s/\j<=10000/\Sb a b) (λ(_,_,j,_)=>(10000-j).toNat) ⟨rfl,qj,qj,Z,Z,k3⟩ ?_
  rintro⟨p,i,j,b⟩ ⟨rfl,hi,Ya,hj,NQ,J⟩
  have B:=J.1
  have JE:=Xt l a b J X
  unfold kY
  clear k3
  exact lR⟩
 have L1:∀ d x b,Sp (kU (a.length:Int) l (d,(x,b))) (d=(0,a.length)/\x=20/\Sb a b) (λr=>Sb a r):=λd x b=>⟨λ⟨k0,k,k'⟩=>by
  subst k0 k
  unfold kU
  refine ug (λ(p,i,b)=>p=(0,a.length)/\0<i/\i<=4000/\Sb a b) (λ(_,i,_)=>(4000-i).toNat) ⟨rfl,qj,qj,k'⟩ ?_
  rintro⟨p,i,b⟩ ⟨rfl,hi,Ya,J⟩
  have B:=J.1
  have JE:=λb J=>Xt l a b J X
  unfold kX
  clear k'
  exact lR⟩
 have JE:=λb J=>Xt l a b J X
 have B:=λb=>z0d a b
 unfold jC
 exact lR⟩
instance (d:Nat×Nat) (a:List Int):Sp (uD d l a) (d=(0,a.length)/\a.length<=1000/\ins l a) (λr=>Sb a r):=⟨λh=>by
 unfold uD
 obtain⟨rfl,h⟩:=h
 exact lR⟩
end
open T PL
theorem zpj:∀ k:Nat,k<65->(nk (wm 1) (wm k)).wp λr=>r=(0,(k:Int)):=by
 unfold nk ox
 intro k hk
 refine xf (zj (qj) (zj (qj) (zj (qj) (zj (qj) (zj (qj) (ze (ze ?_)))))))
 revert k
 decide +kernel
theorem zem(k:Nat)(h:1<=k)(h':k<=64):(yJ [-1] k).wp λr=>r=qL k (-1):=by
 unfold yJ
 refine wk (qu) (xf (xv (zpj k (Z)) ?_))
 rintro _ rfl
 have e1:ql (k:Int)=k:=qv (Z) (Z)
 dsimp only
 rw[e1,zL]
 refine wk (by simp; omega) (zj ⟨Z,Z,Z,Z⟩ (zj ⟨rfl,qu⟩ (uH (by simp[yL]; omega) (xf ?_))))
 refine xv (P:=λr=>r=qL k (-1)) ?_ λr hr=>zc (z8 (ze hr))
 unfold eL
 refine ug (σ:=Int×List Int) (λ(b,a)=>a.length=k/\1<=b/\b<=k/\∀ x∈a.take b.toNat,x = -1) (λ(b,_)=>k-b.toNat) ⟨by simp[yL]; omega,by simp[Dl]; omega,by simp[Dl]; omega,?_⟩ ?_
 ·have:Dl k 1=1:=by unfold Dl; omega
  simp only[List.length_singleton,this,yL]
  intro x U
  simpa[List.take_append,zF (show[(-1:Int)].length<=k by simpa using h)]using U
 rintro⟨b,a⟩ ⟨B,b0,b1,U⟩
 obtain⟨j,rfl⟩:=Y (show 0<=b by omega)
 unfold gK
 dsimp only
 simp only[zL,Int.toNat_zero,Nat.zero_add,Nat.sub_zero,List.drop_zero]at U ⊢
 refine zf (λe => ?_) λe => ?_
 ·have e:=uY e
  have ha:(yL j (a.length-j) a (a.take j)).length=a.length:=by unfold yL; simp; omega
  have hm:Dl (a.length-j) (a.take j).length=min (a.length-j) j:=by unfold Dl; rw[List.length_take]; omega
  have hw:ql ((j:Int)+(Dl (a.length-j) (a.take j).length:Nat))=((j+min (a.length-j) j:Nat):Int):=by rw[hm,qv (Z) (Z)]; omega
  refine zj ⟨Z,Z,Z⟩ (zj ⟨Z,Z,Z⟩ (z8 (zj ⟨rfl,Z⟩ (uH ha.symm (ze ?_)))))
  rw[hw]
  refine⟨⟨ha.trans B,Z,Z,λx Ho => ?_⟩,by simp only[zL]; omega⟩
  rw[zL]at Ho
  have:x∈a.take j:=by
   unfold yL at Ho
   rw[zX (by simp; omega)]at Ho
   rcases zG.1 (zP Ho)with k | k
   ·exact k
   ·exact zP k
  exact U x this
 ·have e:=hZ e
  refine zc (z8 (ze ?_))
  rw[zF (Z)]at U
  exact List.eq_replicate_iff.2 ⟨B,U⟩
instance (t:Term) (v:Int):Sp (cA t v) True (λr=>r=true↔t.1=v):=⟨λ_=>by unfold cA; exact ze (qu)⟩
instance (c:vO) (v:Int):Sp (W9 c v) (c.2.1.length<=1000) (λr=>r=true↔v∈vs c):=⟨λh=>by
 unfold W9
 refine za ⟨Z,λ_ _=>trivial⟩ λr hr=>ze ?_
 rw[iX]
 rcases hr with⟨rfl,k⟩ | ⟨rfl,x,U,k⟩
 ·exact⟨nofun,λ⟨t,ht,e⟩=>(k t ht).2 e⟩
 ·exact⟨λ_=>⟨x,U,k.1 rfl⟩,λ_=>rfl⟩⟩
def Cw(l:List vO):Prop:=l.length<=1000/\∀ c∈l,cw c
instance (l:List vO) (o:List Int) (n:Int):Sp (bM l o n) (Cw l/\o.length<=1000000) (λr=>match r with | .inl (e,f,x,y)=>f=(l,())/\x=o/\(e=true->∃ k:Nat,n=k/\Ch k l o y) | .inr e=>e=false):=⟨λ⟨h,ho⟩=>by
 unfold bM
 refine zf (λ_=>ze rfl) λe => ?_
 simp only[Bool.or_eq_false_iff,decide_eq_false_iff_not,bne_eq_false_iff_eq]at e
 obtain⟨k,rfl⟩:=Y (show 0<=n by omega)
 refine za (Z) λo' e1 => ?_
 have e1:o'=o:=e1
 subst o'
 refine xf (xv (zem k (Z) (Z)) λ_ e1 => ?_)
 subst e1
 refine z8 (z8 (zc (zc (xf ?_))))
 refine xv (P:=λz=>match z with | .inl (x,y,f)=>f=(l,())/\x=o/\((k:Int)=k/\(∀ c∈l,(dz c k).run=some true)/\y.length=k/\(∀ i:Int,0<=i->i<l.length->nth o i di = -1\/(nth o i di∈vs (nth l i (zb zp))/\nth y (nth o i di) di=i))/\∀ v:Int,0<=v->v<k->nth y v di = -1\/(0<=nth y v di/\nth y v di<l.length/\nth o (nth y v di) di=v)) | .inr (e,_)=>e=false) ?_ ?_
 ·unfold td
  refine ug (σ:=Int×List Int×List Int×List vO×Unit) (λ(d,x,y,f)=>f=(l,())/\x=o/\0<=d/\d<=l.length/\(∀ i:Int,0<=i->i<d->(dz (nth l i (zb zp)) k).run=some true)/\y.length=k/\(∀ i:Int,0<=i->i<d->nth o i di = -1\/(nth o i di∈vs (nth l i (zb zp))/\nth y (nth o i di) di=i))/\∀ v:Int,0<=v->v<k->nth y v di = -1\/(0<=nth y v di/\nth y v di<d/\nth o (nth y v di) di=v))
   (λ(d,_)=>(l.length-d).toNat) ⟨rfl,rfl,Z,Z,Z,qu,Z,λv v0 v1=>.inl ?_⟩ ?_
  ·unfold nth
   rw[zA,List.getElem?_replicate,if_pos (Z)]; rfl
  rintro⟨d,x,y,f⟩ ⟨rfl,rfl,d0,d1,hA,hy,hoc,hbc⟩
  unfold iE
  simp only[sn]
  refine zf (λV => ?_) λV => ?_
  ·have V:=uY V
   have hw:ql (d+1)=d+1:=qv (Z) (by have:=h.1; omega)
   have hcw:=h.2 _ (xo (d:=zb zp) d0 V)
   refine qq ⟨d0,V⟩ (xf ?_)
   obtain⟨r,hr,hV⟩:=T.mS.1 (Sp.sp (t:=dz (nth l d (zb zp)) k) ⟨Z,hcw.1,hcw.2.1,by have:=hcw.2.2; omega⟩)
   refine bB hr (zf (λe=>z8 (z8 (zc (zc (ze rfl))))) λe => ?_)
   have hrt:r=true:=by simpa using e
   subst hrt
   have hV:=hV rfl
   have hA':∀ i:Int,0<=i->i<d+1->(dz (nth l i (zb zp)) k).run=some true:=λi i0 i1=>by
    by_cases e:i=d
    ·rw[e]; exact hr
    ·exact hA i i0 (Z)
   refine qq ⟨d0,Z⟩ (zf (λe => ?_) λe => ?_)
   ·have e:nth x d di = -1:=by simpa using e
    refine z8 (z8 (zc (zc (ze ?_))))
    rw[hw]
    refine⟨⟨rfl,rfl,Z,Z,hA',hy,λi i0 i1 => ?_,λv v0 v1=>(hbc v v0 v1).imp_right λ⟨a,b,c⟩=>⟨a,Int.lt_trans b (Int.lt_succ d),c⟩⟩,by simp only; omega⟩
    by_cases e':i=d
    ·rw[e']; exact .inl e
    ·exact hoc i i0 (Z)
   ·have e:nth x d di ≠ -1:=by simpa using e
    refine xf (xv (P:=λz=>z.2=(x,y,(l,()),nth l d (zb zp))/\(z.1=false->nth x d di∈vs (nth l d (zb zp))/\nth y (nth x d di) di = -1)) ?_ ?_)
    ·refine za (by exact hcw.2.2) λb J=>zf (λe=>z8 (z8 (zc (zc (ze ⟨rfl,nofun⟩))))) λe => ?_
     have J:=J.1 (by simpa using e)
     obtain⟨t,ht,et⟩:=iX.1 J
     have hv:=hV.2.2 t ht
     rw[et]at hv
     have hv1:nth x d di<y.length:=by rw[hy]; exact hv.2
     have hv0:0<=nth x d di:=hv.1
     have Hn:0+(nth x d di).toNat<y.length:=Z
     exact qq ⟨hv0,hv1⟩ (zj ⟨rfl,Hn⟩ (z8 (z8 (zc (zc (ze ⟨rfl,λq=>⟨J,by simpa using q⟩⟩))))))
    ·rintro⟨b,_⟩ ⟨rfl,J⟩
     refine zf (λ_=>z8 (z8 (zc (zc (ze rfl))))) λe' => ?_
     obtain⟨J,KN⟩:=J e'
     obtain⟨t,ht,et⟩:=iX.1 J
     have hv:=hV.2.2 t ht
     rw[et]at hv
     have hv0:0<=nth x d di:=hv.1
     have hv1:nth x d di<y.length:=by rw[hy]; exact hv.2
     have Hn:0+(nth x d di).toNat<y.length:=Z
     refine qq ⟨hv0,hv1⟩ (zj ⟨rfl,Hn⟩ (z8 (zj (by rw[List.length_set]) (zc (zj ⟨by rw[List.length_set],rfl,by rw[List.length_set]⟩ (ze ?_))))))
     rw[hw]
     have ud:∀ v:Int,0<=v->nth (y.set (0+(nth x d di).toNat) d) v di=if v=nth x d di then d else nth y v di:=λv v0=>VF hv0 hv1 v0
     refine⟨⟨rfl,rfl,Z,Z,hA',by rw[List.length_set]; exact hy,λi i0 i1 => ?_,λv v0 v1 => ?_⟩,by simp only; omega⟩
     ·by_cases e':i=d
      ·refine .inr ?_
       rw[e']
       exact⟨J,(ud _ hv0).trans (if_pos rfl)⟩
      ·refine(hoc i i0 (Z)).imp_right λ⟨a,c⟩=>⟨a,?_⟩
       obtain⟨t',ht',et'⟩:=iX.1 a
       have hV':=VT (Sp.sp (t:=dz (nth l i (zb zp)) k) (by
        have hcw:=h.2 _ (xo (l:=l) (i:=i) (d:=zb zp) i0 (Z))
        exact⟨Z,hcw.1,hcw.2.1,by have:=hcw.2.2; omega⟩)) (hA i i0 (Z)) rfl
       have h0:=(hV'.2.2 t' ht').1
       rw[et']at h0
       refine(ud _ h0).trans ?_
       rw[if_neg]
       ·exact c
       ·intro q; rw[q,KN]at c; omega
     ·have:=ud v v0
      by_cases e':v=nth x d di
      ·rw[if_pos e']at this
       refine .inr ?_
       rw[this]; exact⟨d0,Z,e'.symm⟩
      ·rw[if_neg e']at this
       rw[this]
       exact(hbc v v0 v1).imp_right λ⟨a,b,c⟩=>⟨a,Z,c⟩
  ·have V:=hZ V
   have Fm:d=l.length:=Z
   subst Fm
   refine z8 (z8 (zc (zc (ze ⟨rfl,rfl,trivial,λc hc => ?_,hy,hoc,hbc⟩))))
   obtain⟨i,hi,rfl⟩:=zY hc
   have:=hA i (Z) (Z)
   simpa[nth,hi]using this
 ·rintro(⟨x,y,f⟩ | ⟨b,_⟩) hz
  ·obtain⟨rfl,rfl,_,hA,hy,hoc,hbc⟩:=hz
   have hAc:Ac k l:=⟨h.1,λc hc=>⟨h.2 c hc,hA c hc⟩⟩
   refine za ⟨Z,Z,hAc⟩ λr hr=>zc (zc (z8 (z8 (ze ⟨rfl,rfl,λe=>⟨k,rfl,hAc,Z,Z,hr e,Z,hy,hoc,hbc⟩⟩))))
  ·exact ze hz⟩
open T PL
instance (a b:List Int):Sp (yq a b) (a.length<=1000000) (λr=>r=false->a≠b):=⟨λh=>by
 unfold yq lN
 refine zf (λe=>ze λ_ k=>by rw[k]at e; simp at e) λe => ?_
 have e:(a.length:Int)=b.length:=by simpa using e
 refine xf (xv (P:=λz=>z.elim (λ_=>True) λr=>r=false->a≠b) ?_ λz hz => ?_)
 ·refine ug (σ:=Int) (λi=>0<=i/\i<=a.length) (λi=>(a.length-i).toNat) ⟨Z,Z⟩ λi hi => ?_
  unfold cI
  refine zf (λV => ?_) λV=>ze trivial
  have V:=uY V
  have hw:ql (i+1)=i+1:=qv (Z) (Z)
  refine qq ⟨hi.1,V⟩ (qq ⟨hi.1,Z⟩ (zf (λk=>ze λ_ q => ?_) λk=>ze ?_))
  ·rw[q]at k; simp at k
  ·rw[hw]; exact⟨⟨Z,Z⟩,Z⟩
 ·rcases z with z | z
  ·exact ze nofun
  ·exact ze hz⟩
theorem db{α:Type}(a:List α):List.drop 0 (List.take (0+a.length) a)=a:=qu
instance (l:List vO) (o:List Int) (n:Int):Sp (pc l o n) (Cw l/\o.length<=1000000) (λr=>(r.2=false->r.1=o)/\(r.2=true->∃ (k:Nat) (y:List Int),n=k/\Ch k l r.1 y)):=⟨λ⟨h,ho⟩=>by
 unfold pc
 have zfN:=h.1
 refine za ⟨h,ho⟩ λz hz => ?_
 rcases z with⟨e,f,x,y⟩ | e
 ·obtain⟨rfl,rfl,hC0⟩:=hz
  refine zf (λk=>za (Z) λr hr=>ze ⟨λ_=>hr,nofun⟩) λk => ?_
  obtain⟨n,rfl,hC⟩:=hC0 (by simpa using k)
  clear hC0
  refine zj ⟨rfl,rfl,rfl⟩ (zc (zc (z8 (z8 (zj rfl (xf (xv (P:=λz=>∃ a,z=((l,()),x,y,a)/\ins l a/\a.length<=1000) ?_ ?_)))))))
  ·unfold QE
   refine ug (σ:=Int×(List vO×Unit)×List Int×List Int×List Int) (λ(d,p,b,c,a)=>(p=(l,())/\b=x/\c=y)/\0<=d/\d<=l.length/\a.length=d.toNat/\ins l a) (λ(d,_)=>(l.length-d).toNat) ⟨⟨rfl,rfl,rfl⟩,Z,Z,rfl,nofun⟩ ?_
   rintro⟨d,p,b,c,a⟩ ⟨⟨rfl,rfl,rfl⟩,d0,d1,B,hi⟩
   unfold oe
   refine zf (λV => ?_) λV => ?_
   ·have V:=uY V
    have hw:ql (d+1)=d+1:=qv (Z) (Z)
    refine vX (Z) (zj ⟨qu,rfl,qu⟩ (zc (zc (z8 (z8 (zj (qu) (ze ?_)))))))
    rw[hw]
    refine⟨⟨⟨rfl,rfl,rfl⟩,Z,Z,?_,λu hu => ?_⟩,by simp only; omega⟩
    ·show(a++[d]).length=(d+1).toNat
     rw[List.length_append,List.length_singleton]; omega
    ·rcases zG.1 hu with hu | hu
     ·exact hi u hu
     ·rw[W.1 hu]; exact⟨d0,V⟩
   ·exact zc (zc (zc (z8 (z8 (z8 (ze ⟨a,rfl,hi,Z⟩))))))
  ·rintro _ ⟨a,rfl,hi,KM⟩
   refine z8 (z8 (za ⟨rfl,KM,hi⟩ λg hg => ?_))
   have TU:=hg.1
   refine zj ⟨TU.symm,rfl,TU.symm⟩ (zc (zc (z8 (z8 (z8 (xf (xv (P:=λz=>∃ o b:List Int,z=((l,()),o,b,g)/\Ch n l o b) ?_ ?_)))))))
   ·have hgi:=Xt l a g hg hi
    have hB:=z3S l
    have hV:∀ c∈l,0<=c.1/\c.1<=4:=λc hc=>by have:=hC.ac.vc (by have:=hC.n64; omega) hc; exact⟨this.1,this.2.1⟩
    unfold QF
    refine ug (σ:=(List Int×Bool)×(List vO×Unit)×List Int×List Int×List Int) (λ(_,p,o,b,a)=>p=(l,())/\a=g/\Ch n l o b) (λ(q,_,o,_,_)=>2*(5*l.length-sU l o).toNat+if q.2=true/\q.1=o then 0 else 1) ⟨rfl,rfl,hC⟩ ?_
    rintro⟨q,p,o,b,a⟩ ⟨rfl,rfl,hC'⟩
    unfold og
    have hol:=hC'.ol
    refine xf (xv (P:=λz=>∃ w:Bool,z=(w,(l,()),o,b,a)/\(w=true->¬ (q.2=true/\q.1=o))) ?_ ?_)
    ·refine zf (λk=>zc (zc (zc (z8 (z8 (z8 (ze ⟨true,rfl,λ_ k' => ?_⟩))))))) λk=>z8 (xf ?_)
     ·rw[k'.1]at k; cases k
     ·rw[db]
      by_cases hq:q.1.length=o.length
      ·exact vG (Z) λw hw=>zc (zc (zc (z8 (z8 (z8 (ze ⟨!w,rfl,λe k'=>hw (by simpa using e) k'.2⟩))))))
      ·unfold yq
       exact vy (by rw[bne_iff_ne]; omega) (ze (zc (zc (zc (z8 (z8 (z8 (ze ⟨true,rfl,λ_ k'=>hq (by rw[k'.2])⟩))))))))
    ·rintro _ ⟨w,rfl,hw⟩
     dsimp only
     refine zf (λk => ?_) λk=>zc (zc (z8 (z8 (z8 (ze ⟨o,b,rfl,hC'⟩)))))
     rw[db]
     refine z8 (zj (Z) (zc (zc (zc (zc (z8 (z8 (z8 (xf (xv (P:=λz=>∃ o' b':List Int,z=((l,()),o',b',a)/\Ch n l o' b'/\(o'=o/\b'=b\/sU l o<sU l o')) ?_ ?_))))))))))
     ·unfold QG
      refine ug (σ:=Int×(List vO×Unit)×List Int×List Int×List Int) (λ(d,p,o',b',a')=>(p=(l,())/\a'=a)/\0<=d/\d<=a.length/\Ch n l o' b'/\(o'=o/\b'=b\/sU l o<sU l o')) (λ(d,_)=>(a.length-d).toNat) ⟨⟨rfl,rfl⟩,Z,Z,hC',.inl ⟨rfl,rfl⟩⟩ ?_
      rintro⟨d,p,o',b',a'⟩ ⟨⟨rfl,rfl⟩,d0,d1,hC2,hp⟩
      unfold oh
      simp only[sn]
      refine zf (λV => ?_) λV=>zc (zc (zc (z8 (z8 (z8 (ze ⟨o',b',rfl,hC2,hp⟩))))))
      have V:=uY V
      have hw:ql (d+1)=d+1:=qv (Z) (Z)
      have he:=hgi _ (xo (d:=di) d0 V)
      have he0:0<=nth a' d di:=he.1
      have he1:nth a' d di<l.length:=he.2
      have zu6:=hC2.ol
      have he2:nth a' d di<o'.length:=Z
      have he3:0+(nth a' d di).toNat<o'.length:=Z
      refine qq ⟨d0,V⟩ (zj ⟨rfl,Z⟩ (qq ⟨he0,he2⟩ (zj ⟨rfl,he3⟩ (zf (λe => ?_) λe => ?_))))
      ·have e:nth o' (nth a' d di) di = -1:=by simpa using e
       refine zc (zc (z8 (z8 (xf (xv (zci hC2 ⟨he0,he1⟩ e) ?_)))))
       rintro⟨p,o2,b2⟩ ⟨rfl,hC3,hp3⟩
       refine zc (zc (zc (zc (z8 (z8 (z8 (ze ?_)))))))
       rw[hw]
       refine⟨⟨⟨rfl,rfl⟩,Z,Z,hC3,?_⟩,by simp only; omega⟩
       have hp3:o2=o'/\b2=b'\/sU l o'<sU l o2:=hp3
       show o2=o/\b2=b\/sU l o<sU l o2
       rcases hp3 with⟨rfl,rfl⟩ | k
       ·exact hp
       ·rcases hp with⟨rfl,rfl⟩ | k'
        ·exact .inr k
        ·exact .inr (Int.lt_trans k' k)
      ·refine zc (zc (zc (zc (z8 (z8 (z8 (ze ?_)))))))
       rw[hw]
       exact⟨⟨⟨rfl,rfl⟩,Z,Z,hC2,hp⟩,by simp only; omega⟩
     ·rintro _ ⟨o',b',rfl,hC2,hp⟩
      refine zc (zc (zc (z8 (z8 (z8 (ze ⟨⟨rfl,rfl,hC2⟩,?_⟩))))))
      have h1:=hB o hV
      have X:=hB o' hV
      show 2*(5*l.length-sU l o').toNat+(if true=true/\o=o' then 0 else 1)<2*(5*l.length-sU l o).toNat+(if q.2=true/\q.1=o then 0 else 1)
      rw[if_neg (hw k)]
      rcases hp with⟨rfl,_⟩ | k'
      ·rw[if_pos ⟨rfl,rfl⟩]; omega
      ·split<;>omega
   ·rintro _ ⟨o,b,rfl,hC'⟩
    dsimp only
    rw[db]
    exact z8 (ze ⟨nofun,λ_=>⟨n,b,rfl,hC'⟩⟩)
 ·have hz:e=false:=hz
  subst hz
  exact vy rfl (za (Z) λr hr=>ze ⟨λ_=>hr,nofun⟩)⟩
instance (l:List vO) (o:List Int) (n:Int):Sp (Z9 l o n) (Cw l/\o.length<=1000000) (λr=>r=true->∃ (k:Nat) (y:List Int),n=k/\Ch k l o y):=⟨λh=>by
 unfold Z9
 refine za h λz hz => ?_
 rcases z with⟨e,f,x,y⟩ | e
 ·exact ze λk=>by obtain⟨m,h1,X⟩:=hz.2.2 k; exact⟨m,y,h1,X⟩
 ·exact ze λk=>by rw[hz]at k; cases k⟩
instance (l:List vO) (o:List Int) (n i:Int):Sp (mY l o n i) (Cw l/\o.length<=1000000) (λ_=>True):=⟨λh=>by
 unfold mY
 refine za h λz hz => ?_
 rcases z with⟨e,f,x,y⟩ | e
 ·obtain⟨rfl,rfl,hC0⟩:=hz
  refine zf (λk => ?_) λ_=>ze trivial
  obtain⟨n,rfl,hC⟩:=hC0 k
  clear hC0
  refine zf (λi0=>zf (λi1 => ?_) λ_=>ze trivial) λ_=>ze trivial
  have i0:=uY i0
  have i1:=uY i1
  have hol:=hC.ol
  refine qq ⟨i0,Z⟩ (zj ⟨rfl,Z⟩ (zf (λ_=>zc (zc (z8 (z8 (xf ?_))))) λ_=>ze trivial))
  refine xv (P:=λ_=>True) ?_ λ_ _=>ze trivial
  unfold bn dh
  refine qq ⟨i0,i1⟩ (qq ⟨i0,i1⟩ (zc (zc (z8 (z8 (xf ?_))))))
  refine xv (P:=λ_=>True) ?_ λ_ _=>zc (zc (z8 (z8 (ze trivial))))
  obtain⟨S,hS⟩:=hC.sg
  obtain⟨rk,hl,_,hr⟩:=hC.rk
  have hvr:=λt ht=>hC.vr i0 i1 (v:=t) ht
  have hlen:(nth l i (zb zp)).2.1.length<=1000:=(hC.ac.2 _ (xo i0 i1)).1.2.2
  dsimp only
  generalize nth l i (zb zp)=c at *
  refine ug (σ:=Int×Int×Int×(List vO×Unit)×List Int×List Int) (λ(_,_,d,p,a,b)=>(p=(l,())/\a=x/\b=y)/\0<=d/\d<=c.2.1.length) (λ(_,_,d,_)=>(c.2.1.length-d).toNat) ⟨⟨rfl,rfl,rfl⟩,Z,Z⟩ ?_
  rintro⟨p,q,d,w,a,b⟩ ⟨⟨rfl,rfl,rfl⟩,d0,d1⟩
  unfold yx
  refine zf (λV => ?_) λ_=>zc (zc (z8 (z8 (ze trivial))))
  have V:=uY V
  have hw:ql (d+1)=d+1:=qv (Z) (Z)
  have htr:=hvr _ (iX.2 ⟨_,xo (d:=zb qk) d0 V,rfl⟩)
  have hn:=hC.n64
  refine qq ⟨d0,V⟩ (zc (zc (z8 (z8 (xf (xv (Cb hC hS hr _ htr) ?_))))))
  rintro _ rfl
  refine zj (zbu (zO (qj) htr.1) (zO (qF htr.2) (Z))) (zf (λ_=>zc (zc (z8 (z8 (ze ?_))))) λ_=>zc (zc (z8 (z8 (ze ?_)))))
  all_goals
   rw[hw]
   exact⟨⟨⟨rfl,rfl,rfl⟩,Z,Z⟩,by simp only; omega⟩
 ·have hz:e=false:=hz
  subst hz
  exact wk rfl (ze trivial)⟩
open T PL
theorem zc2{n:Int}{l:List vO}(h:Ac n l)(h0:0<=n)(hn:n<=64){c:vO}(hc:c∈l):(c.2.1.length:Int)<=n:=by
 obtain⟨h1,X⟩:=h.2 c hc
 have hV:=h.vc hn hc
 have B:=h1.2.2
 have hA:∀ x∈c.2.1,rg x.2.1/\rl x.2.1<=1000000:=λx U=>⟨h1.1.1 x U,by have:=XU U; have:=h1.2.1; unfold cb at this; omega⟩
 have hK:rg c.2.2.1/\rl c.2.2.1<=1000000:=⟨h1.1.2,by have:=EI c; have:=h1.2.1; omega⟩
 have L:∀ s,Sp (Z3 n c.2.1 (c.2.1.length:Int) s) (s=(0,0)) (λr=>match r with | .inl _=>(c.2.1.length:Int)<=n | .inr b=>b=false):=λs=>⟨λhs=>by
  unfold Z3
  refine cK c.2.1 (zb qk) (λ(_,i)=>i) (λx=>(rg x.2.1/\rl x.2.1<=1000000)/\0<=x.1/\x.1<n) (λ_=>True) (λ(g,i)=>i<=g/\g<=n) (λx U=>⟨hA x U,hV.2.2 x U⟩) (by subst hs; exact⟨rfl,qJ _,h0⟩) (λ⟨g,i⟩ x hj U he i0 hi => ?_) λ⟨g,i⟩ hj he _ => ?_
  ·dsimp only at *
   unfold pO
   dsimp only
   rw[he]
   clear he hA hK hV
   exact gog
  ·dsimp only at *
   unfold pO
   clear h1 hA hK hV
   exact gog⟩
 refine VT (t:=dz c n) (Q:=λr=>r=true->(c.2.1.length:Int)<=n) ?_ X rfl
 unfold dz
 clear hA hV h1 X h
 exact gog
instance (b:List Int) (c:Int):Sp (jy b c) (b.length<=1000000) (λ_=>True):=⟨λh=>by
 have L:Sp (yH b c (b.length:Int) 0) True (λ_=>True):=⟨λ_=>by
  unfold yH
  refine ug (σ:=Int) (λi=>0<=i/\i<=b.length) (λi=>(b.length-i).toNat) ⟨Z,Z⟩ λi hi => ?_
  unfold yI
  exact lR⟩
 unfold jy uM
 exact lR⟩
instance (b:Term) (c:List Int) (d:Int) (a:List Int):Sp (dt b c d a) (0<=d/\d<c.length/\a.length<=1000000) (λr=>r.2=a):=⟨λh=>by
 unfold dt
 rw[db]
 exact lR⟩
instance (d:List Term) (e:List Int×Int×Unit) (c:List Int):Sp (wK d e c) (0<=e.2.1/\e.2.1<e.1.length/\c.length<=1000000/\d.length<=1000000) (λr=>r.2=c):=⟨λh=>by
 obtain⟨e1,e2,e3⟩:=e
 have L:Sp (vt d (d.length:Int) ((e1,e2,()),0,c)) True (λr=>match r with | .inl a=>a=c | .inr z=>z.2=c):=⟨λ_=>by
  unfold vt
  refine ug (σ:=(List Int×Int×Unit)×Int×List Int) (λ(p,i,b)=>(p=(e1,e2,())/\b=c)/\0<=i/\i<=d.length) (λ(_,i,_)=>(d.length-i).toNat) ⟨⟨rfl,rfl⟩,Z,Z⟩ ?_
  rintro⟨p,i,b⟩ ⟨⟨rfl,rfl⟩,i0,i1⟩
  unfold vu
  exact lR⟩
 unfold wK vS
 exact lR⟩
instance (b:Int) (d:List vO) (f a:List Int):Sp (lH b d f a) ((0<=b/\b<a.length/\b<d.length/\b<f.length/\a.length<=1000000)/\∀ c∈d,c.2.1.length<=1000) (λr=>r.2=a/\(r.1=true->nth a b di ≠ -1)):=⟨λ⟨h,hc⟩=>by
 have hc:=hc _ (xo (d:=zb zp) h.1 h.2.2.1)
 unfold lH
 simp only[sn]
 exact lR⟩
def cn(e:List Int):Nat:=e.countP λx=>x != -1
theorem zcc{e:List Int}{c:Int}(h0:0<=c)(h1:c<e.length)(h:nth e c di ≠ -1):cn (e.set (0+c.toNat) (-1))+1=cn e:=by
 have hc:0+c.toNat<e.length:=Z
 have e1:e[0+c.toNat]=nth e c di:=by unfold nth; rw[zA]; simp[show c.toNat<e.length by omega]
 have hm:0<e.countP λx=>x != -1:=List.countP_pos_iff.2 ⟨e[0+c.toNat],zN hc,by rw[e1]; simpa using h⟩
 unfold cn
 rw[List.countP_set hc,e1,if_pos (by simpa using h),if_neg (qj)]
 omega
instance (l:List vO) (o:List Int) (n:Int):Sp (Wz l o n) (Cw l/\o.length<=1000000) (λr=>(∀ i:Int,i∈r->(0<=i/\i<l.length)/\0<=nth o i di/\nth o i di<n)/\r.length<=1000):=⟨λ⟨h,ho⟩=>by
 unfold Wz
 refine za ⟨h,ho⟩ λz hz=>zf (λ_=>ze ⟨nofun,qj⟩) λk => ?_
 obtain⟨n,y,rfl,hC⟩:=hz (by simpa using k)
 refine za (Z) λo' e1 => ?_
 have e1:o'=o:=e1
 subst o'
 have hol:=hC.ol
 have B:=h.1
 refine zj ⟨rfl,rfl,rfl⟩ (zc (z8 (zj rfl (xf (xv (P:=λz=>(∀ i:Int,i∈z.2->(0<=i/\i<l.length)/\0<=nth o i di/\nth o i di<n)/\z.2.length<=1000) ?_ λ⟨g,b⟩ hz=>z8 (ze (by rw[db]; exact hz)))))))
 unfold J7
 refine ug (σ:=(List vO×List Int×Unit)×Int×List Int×List Int) (λ(p,c,e,a)=>p=(l,o,())/\0<=c/\c<=l.length/\e.length=l.length/\(∀ i:Int,0<=i->i<l.length->nth e i di = -1\/nth e i di=nth o i di)/\a.length+cn e<=1000/\∀ i:Int,i∈a->(0<=i/\i<l.length)/\0<=nth o i di/\nth o i di<n) (λ(_,c,e,_)=>cn e*2000+(l.length-c).toNat)
  ⟨rfl,Z,Z,hol,λi _ _=>.inr rfl,?_,nofun⟩ ?_
 ·have:cn o<=o.length:=qH
  simp only[List.length_nil]; omega
 rintro⟨p,c,e,a⟩ ⟨rfl,c0,c1,he,hi,ha,hA⟩
 unfold Qs
 refine zf (λV => ?_) λV=>zc (zc (z8 (z8 (ze ⟨hA,by show a.length<=1000; omega⟩))))
 have V:=uY V
 have hw:ql (c+1)=c+1:=qv (Z) (Z)
 have hco:c<o.length:=Z
 refine zc (z8 (za ⟨⟨c0,Z,V,hco,Z⟩,λc hc=>(h.2 c hc).2.2⟩ λ⟨f,b⟩ hf => ?_))
 have J:b=e:=hf.1
 subst J
 refine zf (λk=>zc (zc (z8 (z8 (ze ?_))))) λk => ?_
 ·rw[hw]
  exact⟨⟨rfl,Z,Z,he,hi,ha,hA⟩,by simp only; omega⟩
 ·have kB:nth b c di ≠ -1:=hf.2 (by simpa using k)
  have hcn:=zcc c0 (Z) kB
  have ud:∀ v:Int,0<=v->nth (b.set (0+c.toNat) (-1)) v di=if v=c then -1 else nth b v di:=λv v0=>VF c0 (Z) v0
  refine qq ⟨c0,Z⟩ (zj ⟨rfl,Z⟩ (vX (Z) (zj ⟨qu,rfl,qu⟩ (uH (qu) (zj (qu) (ze ?_))))))
  refine⟨⟨rfl,qj,Z,by rw[List.length_set]; exact he,λi i0 i1 => ?_,?_,λi Ya => ?_⟩,?_⟩
  ·rw[ud i i0]
   split
   ·exact .inl rfl
   ·exact hi i i0 i1
  ·show(a++[c]).length+cn (b.set (0+c.toNat) (-1))<=1000
   rw[List.length_append,List.length_singleton]; omega
  ·rcases zG.1 Ya with q | q
   ·exact hA i q
   ·rw[W.1 q]
    have ho:=(hi c c0 V).resolve_left kB
    have hm:=((hC.oc c c0 V).resolve_left (λq=>kB (ho.trans q))).1
    exact⟨⟨c0,V⟩,hC.vr c0 V hm⟩
  ·show cn (b.set (0+c.toNat) (-1))*2000+(l.length-(0:Int)).toNat<cn b*2000+(l.length-c).toNat
   omega⟩
open T PL
instance (priority:=high) divS (a b:Lf.Rat):Sp (tD a b) (rg a/\rg b/\rl a+rl b<=10000000) (λr=>rg r.1/\rl r.1<=rl a+rl b+4/\(nm r.1\/rl r.1<=2)):=⟨λh=>by unfold tD; exact gor⟩
theorem Rn(l:List Lf.Rat)(i:Nat)(h:rs l)(hi:i<l.length):rg (wo l i (zb zm))/\rl (wo l i (zb zm))<=1700:=by
 have e:wo l i (zb zm)∈l:=by unfold wo; rw[zA,zH hi]; exact zN hi
 exact h.2 _ e
theorem DL(l:List Lf.Rat)(i:Nat)(x:Lf.Rat)(h:rs l)(U:rg x)(B:rl x<=1700):rs (l.set i x):=⟨by simpa using h.1,λy hy=>by
 rcases zJ hy with k | rfl
 ·exact h.2 y k
 ·exact⟨U,B⟩⟩
theorem z4c(l:List Lf.Rat)(x:Lf.Rat)(h:rs l)(U:rg x)(B:rl x<=1700)(hn:l.length<1000000000):rs (l++[x]):=⟨by simp; omega,jP h.2 ⟨U,B⟩⟩
theorem MM:rs []:=⟨qu,nofun⟩
theorem csw{l:List vO}(h:Ud l):Cw l:=⟨h.1,λc hc=>⟨(h.2 c hc).1,by have:=(h.2 c hc).2.1; omega,by have:=(h.2 c hc).2.2; omega⟩⟩
theorem zbg(x:Lf.Rat)(h:nm x\/rl x<=2)(k:rl (norm x)<=16):rl x<=1700:=by
 rcases h with h | h
 ·rw[<- show norm x=x from h]; omega
 ·omega
theorem gov{p:Prop} (h:p:=by
 intros
 repeat' (with_reducible first
  | refine ze ?_
  | refine zf (λ_ => ?_) (λ_ => ?_)
  | refine z8 ?_
  | refine zc ?_
  | refine uH ?_ ?_
  | refine qq ?_ ?_
  | refine vX ?_ ?_
  | refine vq ?_ ?_
  | refine zj ?_ ?_
  | refine vY (λ_ _ => ?_) (λ_ _ => ?_)
  | refine za ?_ (λ_ _ => ?_)
  | refine vG ?_ (λ_ _ => ?_)
  | refine xf ?_
  | dsimp only)
 all_goals grind [xb,uT,zu,ja,ym,List.length_set,List.length_append,List.length_singleton,WL,Rn,DL,z4c,MM,zbg]):p:=h
instance (c:vO) (v:List Lf.Rat):Sp (Cy c v) (ck c/\rs v) (λr=>rg r/\rl r<=12000000):=⟨λ⟨⟨h1,X,h3⟩,hv⟩=>by
 have hA:∀ x∈c.2.1,rg x.2.1/\rl x.2.1<=20700:=λx U=>⟨h1.1 x U,by have:=XU U; unfold cb at X; omega⟩
 have hK:rg c.2.2.1/\rl c.2.2.1<=20700:=⟨h1.2,by have:=EI c; omega⟩
 have L:∀ z b,Sp (Jo v c.2.1 (c.2.1.length:Int) (0,z,b)) (rg b/\rl b<=20700) (λr=>rg r.2/\rl r.2<=12000000):=λz b=>⟨λJ=>by
  unfold Jo
  refine cK c.2.1 (zb qk) (λ(i,_)=>i) (λx=>rg x.2.1/\rl x.2.1<=20700) (λ_=>True) (λ(i,_,d)=>0<=i/\i<=512/\rg d/\(rl d:Int)<=20700+22410*i) hA ⟨rfl,qj,qj,J.1,by have:=J.2; show(rl b:Int)<=20700+22410*0; omega⟩ (λ⟨i,y,d⟩ x hj U he i0 hi => ?_) λ⟨i,y,d⟩ hj he _ => ?_
  ·dsimp only at *
   unfold W5
   dsimp only
   rw[he]
   clear he hA J hK h1 X
   exact gov
  ·dsimp only at *
   unfold W5
   clear hA J hK h1 X
   exact gov⟩
 unfold Cy
 clear hA h1 X h3
 exact gov⟩
instance (c:vO) (v:List Lf.Rat):Sp (tn c v) (ck c/\rs v) (λ_=>True):=⟨λh=>by unfold tn; exact gov⟩
instance (c:vO) (j:Int) (v:List Lf.Rat):Sp (tI c j v) ((ck c/\rs v)/\c.2.1.length<=64/\∀ t∈c.2.1,0<=t.1/\t.1<v.length) (λr=>r.2=v/\rg r.1/\rl r.1<=3000000/\(nm r.1\/rl r.1<=2)):=⟨λ⟨⟨⟨h1,X,h3⟩,hv⟩,B,ht⟩=>by
 have hA:∀ x∈c.2.1,(rg x.2.1/\rl x.2.1<=20700)/\0<=x.1/\x.1<v.length:=λx U=>⟨⟨h1.1 x U,by have:=XU U; unfold cb at X; omega⟩,ht x U⟩
 have hK:rg c.2.2.1/\rl c.2.2.1<=20700:=⟨h1.2,by have:=EI c; omega⟩
 have L:∀ z b f,Sp (sA j c.2.1 (c.2.1.length:Int) (0,v,z,b,f)) (rg b/\rl b<=20700/\rg f/\rl f<=20700) (λr=>r.1=v/\rg r.2.2.1/\rl r.2.2.1<=1600000/\rg r.2.2.2/\rl r.2.2.2<=20700):=λz b f=>⟨λJ=>by
  unfold sA
  refine cK c.2.1 (zb qk) (λ(i,_)=>i) (λx=>(rg x.2.1/\rl x.2.1<=20700)/\0<=x.1/\x.1<v.length) (λ_=>True) (λ(i,a,_,d,e)=>a=v/\0<=i/\i<=64/\rg d/\(rl d:Int)<=20700+22410*i/\rg e/\rl e<=20700) hA ⟨rfl,rfl,qj,qj,J.1,by have:=J.2.1; show(rl b:Int)<=20700+22410*0; omega,J.2.2⟩ (λ⟨i,a,y,d,e⟩ x hj U he i0 hi => ?_) λ⟨i,a,y,d,e⟩ hj he _ => ?_
  ·dsimp only at *
   unfold lJ
   dsimp only
   rw[he]
   clear he hA J hK h1 X ht
   exact gov
  ·dsimp only at *
   unfold lJ
   clear hA J hK h1 X ht
   exact gov⟩
 unfold tI
 clear hA h1 X h3 ht
 exact gov⟩
instance (l:List vO) (o:List Int) (v:List Lf.Rat):Sp (Ym l o v) (Ud l/\o.length<=1000000/\rs v) (λr=>(r.2.2=0->rs r.1/\r.1.length=v.length) /\ -1<=r.2.1/\r.2.1<l.length):=⟨λ⟨h,ho,hv⟩=>by
 unfold Ym
 refine za ⟨csw h,ho⟩ λz hz=>zf (λ_=>ze ⟨nofun,by show(-1:Int) <= -1/\(-1:Int)<l.length; omega⟩) λk => ?_
 obtain⟨n,y,hn,hC⟩:=hz (by simpa using k)
 have hn:v.length=n:=Z
 subst hn
 have hol:=hC.ol
 have zu0:=hC.n64
 refine zj ⟨rfl,rfl,rfl⟩ (zj rfl (xf (xv (P:=λd=>rs d/\d.length=v.length) ?_ λd V => ?_)))
 ·unfold GV
  refine ug (σ:=Int×List Lf.Rat) (λ(i,a)=>0<=i/\i<=v.length/\rs a/\(a.length:Int)=i) (λ(i,_)=>(v.length-i).toNat) ⟨qj,Z,MM,rfl⟩ ?_
  rintro⟨i,a⟩ ⟨i0,i1,ha,B⟩
  have U:=λq=>DK hv i i0 q
  have hv1:=hv.1
  unfold VO
  clear hC h hz
  exact gov
 ·refine za ⟨csw h,ho⟩ λf hf=>zc (z8 (xf (xv (P:=λz:List Lf.Rat⊕(Int×Int×List Lf.Rat)=>z.elim (λa=>rs a/\a.length=v.length) λz=>((0:Int)<=z.1/\z.1<(l.length:Int))/\z.2.1=(8:Int)) ?_ λz hz => ?_)))
  ·unfold GW
   refine cK (σ:=Int×List Lf.Rat) f di (λ(i,_)=>i) (λi:Int=>(0<=i/\i<l.length)/\0<=nth o i di/\nth o i di<v.length) (λ_=>True) (λ(_,a)=>rs a/\a.length=v.length) hf.1 ⟨rfl,V⟩ (λ⟨i,a⟩ x hj U he i0 hi => ?_) λ⟨i,a⟩ hj he _ => ?_
   ·dsimp only at he i0 hi
    obtain⟨⟨x0,x1⟩,y0,y1⟩:=U
    obtain⟨ha,KM⟩:=hj
    have hcm:=xo (l:=l) (d:=zb zp) x0 x1
    have hV:=(hC.ac.vc (Z) hcm).2.2
    have hlen:=zc2 hC.ac (Z) (Z) hcm
    have hck:=h.2 _ hcm
    have Hl:x<o.length:=Z
    have hw:ql (i+1)=i+1:=qv (Z) (by have:=hf.2; omega)
    unfold Qt
    dsimp only
    rw[show nth f i (zb (.int .i64))=x from he]
    refine vy (by simpa using hi) (qq ⟨i0,hi⟩ (qq ⟨x0,x1⟩ (qq ⟨x0,Hl⟩ (zc (z8 (za ⟨⟨hck,ha⟩,Z,λt ht=>by rw[KM]; exact hV t ht⟩ λ⟨g,b⟩ hg => ?_))))))
    obtain⟨J,TU,hg2,hg3⟩:=hg
    have J:b=a:=J
    subst J
    refine za ⟨TU,by have:rl g<=3000000:=hg2; show rl g<=_; omega⟩ λk hk=>zf (λ_=>z8 (ze ⟨⟨x0,x1⟩,rfl⟩)) λe => ?_
    have hrl:=zbg g hg3 (hk (by simpa using e))
    have hy1:nth o x di<b.length:=by rw[KM]; exact y1
    refine qq ⟨x0,Hl⟩ (qq ⟨y0,hy1⟩ (zj ⟨rfl,by rw[Nat.zero_add]; show(nth o x di).toNat<b.length; omega⟩ (zj ⟨by rw[List.length_set],rfl,by rw[List.length_set]⟩ (zj (by rw[List.length_set]) (ze ⟨hw,⟨DL _ _ _ ha TU hrl,by show(List.set _ _ _).length=_; rw[List.length_set]; exact KM⟩,trivial⟩)))))
   ·unfold Qt
    refine wk (by simpa using Int.le_of_eq he.symm) (zc (z8 (ze hj)))
  ·rcases z with a | ⟨h1,i1,j1⟩
   ·refine z8 (ze ?_)
    rw[db]
    exact⟨λ_=>hz,by show(-1:Int) <= -1/\(-1:Int)<l.length; omega⟩
   ·obtain⟨⟨k0,k1⟩,k2⟩:=hz
    have k2:i1=8:=k2
    subst k2
    exact ze ⟨nofun,by have:0<=h1:=k0; show -1<=h1; omega,k1⟩⟩
open T PL
instance (c:vO):Sp (Qu c) (ck c) (λ_=>True):=⟨λh=>by
 have h1:=h.1.2
 have X:=h.2.1
 have h3:=EI c
 unfold Qu
 exact gov⟩
instance (c:vO) (n:Int):Sp (gw c n) (n<=1000000/\ck c) (λr=>r=false->(dz c n).run=some true):=⟨λh=>by
 unfold gw
 obtain⟨r,hr,_⟩:=T.mS.1 (Sp.sp (t:=dz c n) ⟨h.1,h.2.1,by have:=h.2.2.1; omega,by have:=h.2.2.2; omega⟩)
 exact xf (bB hr (ze λe=>by rw[hr]; simpa using e))⟩
def ou(l:List Int):Prop:=∀ x∈l,-1<=x/\x<1000000000000000000
instance (l:List vO) (s:jg):Sp (tM l s) (Ud l/\s.1.length<=1000000/\rs s.2.1) (λr=>(r.2.2=0->rs r.1.2.1/\r.1.2.1.length=s.2.1.length/\r.1.1.length=l.length/\ou r.1.1/\1<=s.2.1.length) /\ -1<=r.2.1/\r.2.1<l.length):=⟨λ⟨h,ho,hv⟩=>by
 unfold tM
 have z7h:(-1:Int)<l.length:=Z
 refine xf (xv (P:=λz=>(z.1=false->(Ac s.2.1.length l/\s.2.1.length<=64)/\1<=s.2.1.length)/\z.2.2=(s.2.1.length:Int)) ?_ ?_)
 ·refine zf (λ_=>ze ⟨nofun,rfl⟩) λh1=>zf (λ_=>ze ⟨nofun,rfl⟩) λh64=>zf (λ_=>ze ⟨nofun,rfl⟩) λ_=>zf (λ_=>ze ⟨nofun,rfl⟩) λ_ => ?_
  have h64:=hZ h64
  refine za ⟨by have:=h.1; omega,λx U=>⟨Z,h.2 x U⟩⟩ λr hr=>ze ⟨λe=>⟨⟨⟨h.1,λc hc=>⟨(csw h).2 c hc,?_⟩⟩,Z⟩,by have:=hZ h1; omega⟩,rfl⟩
  have e:r=false:=e
  rcases hr with⟨_,k⟩ | ⟨k,_⟩
  ·exact k c hc rfl
  ·rw[e]at k; cases k
 ·rintro⟨j,k,d⟩ ⟨hA,V⟩
  have V:d=s.2.1.length:=V
  subst V
  refine zf (λ_=>ze ⟨nofun,by show(-1:Int) <= -1; decide,z7h⟩) λe => ?_
  obtain⟨⟨hA,h64⟩,KP⟩:=hA e
  refine za ⟨Z,Z,hA⟩ λf hf=>zf (λe=>ze ⟨nofun,hf.1,hf.2.1⟩) λ_ => ?_
  refine za ⟨csw h,ho⟩ λ⟨o,b⟩ hS=>zf (λ_=>ze ⟨nofun,by show(-1:Int) <= -1; decide,z7h⟩) λe => ?_
  obtain⟨m,y,hm,hC⟩:=hS.2 (by simpa using e)
  have hol:o.length=l.length:=hC.ol
  have zfN:=h.1
  have hou:ou o:=λx U=>by
   obtain⟨j,j0,j1,rfl⟩:=UG (d:=di) U
   rcases hC.oc j j0 (Z)with q | ⟨q,_⟩
   ·have q:nth o j di = -1:=q
    omega
   ·have q2:0<=nth o j di/\nth o j di<(m:Int):=hC.vr j0 (Z) q
    have:=hC.n64
    omega
  refine xf (xv (P:=λz:(jg×Int)⊕(Int×Int×jg×Int)=>z.elim (λ_=>True) λz=>((-1:Int)<=z.1/\z.1<(l.length:Int))/\z.2.1=(10:Int)) ?_ ?_)
  ·unfold XQ
   refine ug (σ:=Int×jg×Int) (λ(i,_)=>0<=i/\i<=l.length) (λ(i,_)=>(l.length-i).toNat) ⟨qj,Z⟩ ?_
   rintro⟨i,c,d⟩ ⟨i0,i1⟩
   have U:0<=i->i<l.length->ck (nth l i (zb zp)):=λp q=>h.2 _ (xo p q)
   unfold sO
   clear hC hS hA hf h hv
   exact gov
  ·rintro(⟨r,t⟩ | ⟨i,q,t,u⟩) hz
   ·refine za ⟨h,by show o.length<=_; omega,hv⟩ λ⟨m,n,g⟩ hR=>zf (λe=>ze ⟨λq => ?_,hR.2⟩) λe=>ze ⟨λ_=>⟨(hR.1 ?_).1,(hR.1 ?_).2,hol,hou,KP⟩,by show(-1:Int) <= -1; decide,z7h⟩
    ·have q:g=0:=q
     rw[q]at e; cases e
    ·simpa using e
    ·simpa using e
   ·obtain⟨⟨k0,k1⟩,k2⟩:=hz
    have k2:q=10:=k2
    subst k2
    exact ze ⟨nofun,k0,k1⟩⟩
def Sys(a:ux):Prop:=Ud a.2.1/\a.2.2.1.length=a.2.1.length/\a.2.2.2.1.length=a.2.1.length/\io (a.1.2.2.2.2.1.length+a.1.2.2.2.1.length) a.2.2.2.1
instance (b:Int) (a:ux):Sp (dm b a) (Sys a /\ -1<=b/\b<a.2.1.length/\a.1.2.2.2.2.1.length<=10000/\a.1.2.2.2.1.length<=10000) (λr=>r.2=a/\r.1.length<=1):=⟨λ⟨⟨h1,X,h3,h4⟩,h5,h6,h7⟩=>by
 have U:0<=b->0<=nth a.2.2.2.1 b (zb (.int .i64))/\nth a.2.2.2.1 b (zb (.int .i64))<a.1.2.2.2.2.1.length+a.1.2.2.2.1.length:=λp=>h4 _ (xo p (Z))
 unfold dm
 clear h1 h4
 exact gov⟩
instance (g:List Lf.Rat) (a:ux):Sp (ke g a) (Sys a/\rs g/\a.1.2.2.2.2.1.length<=10000/\a.1.2.2.2.1.length<=10000) (λr=>(r.2.2.1=0->rs r.1/\r.1.length=g.length/\Sys r.2.2.2/\r.2.2.2.1=a.1/\r.2.2.2.2.1=a.2.1/\ou r.2.2.2.2.2.1/\1<=g.length)/\r.2.1.length<=1):=⟨λ⟨h,hg,hF⟩=>by
 unfold ke
 refine za ⟨h.1,by have:=h.2.1; have:=h.1.1; show a.2.2.1.length<=_; omega,hg⟩ λ⟨b,d,c⟩ hP=>zf (λe=>za ⟨h,hP.2.1,hP.2.2,hF⟩ λz hz=>ze ⟨λq => ?_,hz.2⟩) λe=>ze ⟨λ_ => ?_,qD _⟩
 ·have q:c=0:=q
  rw[q]at e; cases e
 ·obtain⟨p1,p2,p3,p4,p5⟩:=hP.1 (by simpa using e)
  exact⟨p1,p2,⟨h.1,p3,h.2.2⟩,rfl,rfl,p4,p5⟩⟩
open T PL
def Pn(p:wz):Prop:=rg p.2.2.1/\rl p.2.2.1<=1700
def Ps(l:List wz):Prop:=l.length<=1000000000/\∀ p∈l,Pn p
def Dw(d:wg):Prop:=rs d.1/\d.2.1.length<=1000000000/\rs d.2.2.1/\d.2.2.2.1.length<=1000000000/\Ps d.2.2.2.2.1/\d.2.2.2.2.2.1.length<=1000000000/\ou d.2.2.2.1
theorem L5(l:List wz)(i:Int)(h:Ps l)(h0:0<=i)(h1:i<l.length):rg (nth l i (zb b9)).2.2.1/\rl (nth l i (zb b9)).2.2.1<=1700:=h.2 _ (xo h0 h1)
theorem Nt(l:List wz)(i:Nat)(h:Ps l)(hi:i<l.length):rg (wo l i (zb b9)).2.2.1/\rl (wo l i (zb b9)).2.2.1<=1700:=by
 have e:wo l i (zb b9)∈l:=by unfold wo; rw[zA,zH hi]; exact zN hi
 exact h.2 _ e
theorem Cx(l:List wz)(i:Nat)(x:wz)(h:Ps l)(U:rg x.2.2.1)(B:rl x.2.2.1<=1700):Ps (l.set i x):=⟨by simpa using h.1,λy hy=>by
 rcases zJ hy with k | rfl
 ·exact h.2 y k
 ·exact⟨U,B⟩⟩
theorem zbU(l:List wz)(x:wz)(h:Ps l)(U:rg x.2.2.1)(B:rl x.2.2.1<=1700)(hn:l.length<1000000000):Ps (l++[x]):=⟨by simp; omega,jP h.2 ⟨U,B⟩⟩
theorem zbV:Ps []:=⟨qu,nofun⟩
theorem Dg(n:Int)(l:List Int)(i:Nat)(h:io n l)(hi:i<l.length):0<=wo l i (zb (.int .i64))/\wo l i (zb (.int .i64))<n:=h _ (UR hi)
theorem zb3(n m:Int)(l:List Int)(h:io n l)(k:n<=m):io m l:=λi hi=>⟨(h i hi).1,Int.lt_of_lt_of_le (h i hi).2 k⟩
theorem zfz(t:Term)(k:Lf.Rat)(h1:rg t.2.1)(X:rl t.2.1<=20700)(h3:rg k)(h4:rl k<=20700):ck (1,[t],k,()):=by
 refine⟨⟨λx U=>by rw[W.1 U]; exact h1,h3⟩,?_,by show 1<=512; decide⟩
 show max (max (rl t.2.1) 0) (rl k)<=20700
 omega
theorem god{p:Prop} (h:p:=by
 intros
 repeat' (with_reducible first
  | refine ze ?_
  | refine zf (λ_ => ?_) (λ_ => ?_)
  | refine z8 ?_
  | refine zc ?_
  | refine uH ?_ ?_
  | refine qq ?_ ?_
  | refine vX ?_ ?_
  | refine vq ?_ ?_
  | refine zj ?_ ?_
  | refine vY (λ_ _ => ?_) (λ_ _ => ?_)
  | refine za ?_ (λ_ _ => ?_)
  | refine vG ?_ (λ_ _ => ?_)
  | refine xf ?_
  | dsimp only)
 all_goals grind [xb,uT,zu,ja,ym,List.length_set,List.length_append,List.length_singleton,List.length_nil,WL,Rn,DL,z4c,MM,L5,Nt,Cx,zbU,zbV,Dg,zfz,CN,Df]):p:=h
instance (c:Int) (d:Lf.Rat):Sp (CQ c d) (rg d/\rl d<=1700) (λr=>ck r):=⟨λh=>by
 unfold CQ
 exact god⟩
instance (q:Int) (i:Lf.Rat) (f:Int) (a:Form) (b:List vO) (c d:List Int):Sp (y7 q i f a b c d) ((rg i/\rl i<=1700)/\(Ud b/\b.length<=900)/\c.length<=10000/\d.length<=10000/\0<=q/\q<a.2.2.2.1.length/\a.2.2.2.1.length<=10000/\a.2.2.2.2.1.length<=10000/\io (a.2.2.2.2.1.length+a.2.2.2.1.length) d)
  (λr=>(Ud r.2.1/\r.2.1.length=b.length+1)/\r.2.2.1.length=c.length+1/\(r.2.2.2.length=d.length+1/\io (a.2.2.2.2.1.length+a.2.2.2.1.length) r.2.2.2)/\r.1=a):=⟨λh=>by
 obtain⟨hi,⟨J,hb9⟩,hc,V,q0,q1,hf,hr,hio⟩:=h
 have hw:ql ((a.2.2.2.2.1.length:Int)+q)=a.2.2.2.2.1.length+q:=qv (Z) (Z)
 unfold y7
 refine za hi λe he=>vX (Z) (vX (Z) (vX (Z) (zj ⟨qu,rfl,qu⟩ (zj ⟨qu,rfl,qu⟩ (zj ⟨qu,rfl,qu⟩ (zj (qu) (zj (qu) (zj (qu) (ze ?_)))))))))
 rw[hw]
 exact⟨⟨CN b e J he (Z),qu⟩,qu,⟨qu,Df _ _ _ hio (Z) (Z)⟩,rfl⟩⟩
instance (f:Form) (d:wg):Sp (Xh f d) True (λr=>r=true->d.2.2.1.length=f.2.2.2.1.length/\d.2.2.2.1.length=f.2.2.2.2.1.length/\d.2.2.2.2.1.length=f.2.2.2.1.length/\d.2.2.2.2.2.1.length=f.2.2.2.1.length):=⟨λ_=>by
 unfold Xh
 refine ze λh => ?_
 simp only[zQ,beq_iff_eq]at h
 omega⟩
def Bt(f:Form)(b:List vO)(c d:List Int):Prop:=Ud b/\c.length=b.length/\d.length=b.length/\io (f.2.2.2.2.1.length+f.2.2.2.1.length) d
instance (f:Form) (d:wg):Sp (dC f d) (FW 8200 f/\Dw d) (λr=>match r with | .inl (k,a,b,c,e)=>k=0/\a=f/\Bt f b c e/\FV f/\f.2.2.2.1.length<=64/\f.2.2.2.2.1.length<=64/\d.2.2.1.length=f.2.2.2.1.length/\d.2.2.2.1.length=f.2.2.2.2.1.length/\d.2.2.2.2.1.length=f.2.2.2.1.length/\d.2.2.2.2.2.1.length=f.2.2.2.1.length/\d.1.length=f.2.1.length/\d.2.1.length=f.1.length/\b.length<=128 | .inr (n,k)=>k≠0/\n.length<=1):=⟨λ⟨hF,hD⟩=>by
 unfold dC
 refine za trivial λo ho=>zf (λ_=>ze ⟨qj,qD _⟩) λe => ?_
 have ho:=ho (by simpa using e)
 refine za ⟨hF,hD.1,hD.2.1⟩ λ⟨p,n,k,g,b⟩ hz=>zf (λe=>ze ⟨by simpa using(zU.1 e).1,zS _⟩) λ_=>zf (λe=>ze ⟨by simpa using e,qD _⟩) λe => ?_
 obtain⟨hg,J,hgb,zcM,hz⟩:=hz
 obtain⟨hV,h1,X,h3,h4⟩:=hz (by simpa using e)
 dsimp only at hg J hgb zcM
 refine zc (z8 (z8 (zc (zj ⟨rfl,rfl,rfl⟩ (zc (zj rfl (xf (xv (P:=λz=>∃ c:List Int,z=(g,b,(),f,c)/\c.length=b.length) ?_ ?_))))))))
 ·unfold Xf
  refine ug (σ:=Int×List vO×List Int×Unit×Form×List Int) (λ(i,x,y,u,w,c)=>(x=g/\y=b/\w=f)/\0<=i/\i<=b.length/\(c.length:Int)=i) (λ(i,_)=>(b.length-i).toNat) ⟨⟨rfl,rfl,rfl⟩,qj,Z,rfl⟩ ?_
  rintro⟨i,x,y,u,w,c⟩ ⟨⟨rfl,rfl,rfl⟩,i0,i1,hc⟩
  unfold rG
  refine zf (λV => ?_) λV => ?_
  ·have V:=uY V
   have hn:=Dg _ _ (0+i.toNat) J (Z)
   have hw:ql (i+1)=i+1:=qv (Z) (Z)
   have KP:wo y (0+i.toNat) (zb (.int .i64))<d.2.2.2.1.length:=by have:=hn.2; have:=ho.2.1; omega
   refine qq ⟨i0,V⟩ (zj ⟨rfl,Z⟩ (qq ⟨hn.1,KP⟩ (vX (Z) (zc (z8 (z8 (zc (zj ⟨qu,rfl,qu⟩ (zc (zj (qu) (ze ?_)))))))))))
   rw[hw]
   exact⟨⟨⟨rfl,rfl,rfl⟩,Z,Z,by show((c++[_]).length:Int)=i+1; rw[List.length_append,List.length_singleton]; omega⟩,by simp only; omega⟩
  ·have V:=hZ V
   exact z8 (z8 (zc (zc (zc (z8 (ze ⟨c,rfl,Z⟩))))))
 ·rintro _ ⟨c,rfl,hc⟩
  refine z8 (z8 (zc (zc (zc (z8 (xf (xv (P:=λz=>∃ (x:List vO) (y q:List Int) (w:Form),z=(x,y,(),w,q)/\Bt f x q y/\w=f/\x.length<=128) ?_ ?_)))))))
  ·unfold Xg
   have hPn:=hD.2.2.2.2.1
   have zoh:d.2.2.2.2.1.length<=64:=by have:=ho.2.2.1; omega
   have hP3:=ho.2.2.1
   generalize d.2.2.2.2.1=ps at hPn zoh hP3 ⊢
   refine ug (σ:=Int×List vO×List Int×Unit×Form×List Int) (λ(i,x,y,u,w,c)=>w=f/\0<=i/\i<=ps.length/\Bt f x c y/\(x.length:Int)<=64+i) (λ(i,_)=>(ps.length-i).toNat) ⟨rfl,qj,Z,⟨hg,Z,Z,zb3 _ _ _ J (Z)⟩,Z⟩ ?_
   rintro⟨i,x,y,u,w,c⟩ ⟨rfl,i0,i1,hB,U⟩
   obtain⟨b1,b2,b3,b4⟩:=hB
   unfold rH
   refine zf (λV => ?_) λV => ?_
   ·have V:=uY V
    have hp:=L5 ps i hPn i0 V
    have hw:ql (i+1)=i+1:=qv (Z) (Z)
    refine qq ⟨i0,V⟩ (zf (λ_=>z8 (z8 (zc (zc (zc (z8 (ze ?_))))))) λ_ => ?_)
    ·rw[hw]
     exact⟨⟨rfl,Z,Z,⟨b1,b2,b3,b4⟩,Z⟩,by simp only; omega⟩
    ·have q1:i<w.2.2.2.1.length:=Z
     have q2:w.2.2.2.1.length<=10000:=Z
     have q3:w.2.2.2.2.1.length<=10000:=Z
     refine zc (zc (zc (z8 (z8 (z8 (za ⟨hp,⟨b1,Z⟩,Z,Z,i0,q1,q2,q3,b4⟩ λ⟨e,p,q,r⟩ hr=>z8 (z8 (zc (zc (zc (z8 (ze ?_))))))))))))
     obtain⟨⟨r1,r2⟩,r3,⟨r4,r5⟩,r6⟩:=hr
     dsimp only at r1 r2 r3 r4 r5 r6
     rw[hw]
     exact⟨⟨r6,Z,Z,⟨r1,Z,Z,r5⟩,Z⟩,by simp only; omega⟩
   ·exact z8 (z8 (zc (zc (zc (z8 (ze ⟨x,y,c,w,rfl,⟨b1,b2,b3,b4⟩,rfl,Z⟩))))))
  ·rintro _ ⟨x,y,q,w,rfl,hB,rfl,U⟩
   exact zc (zc (zc (z8 (z8 (z8 (ze ⟨rfl,rfl,hB,hV,h1,X,ho.1,ho.2.1,ho.2.2.1,ho.2.2.2,h3,h4,U⟩))))))⟩
end Go.AM.Lf
