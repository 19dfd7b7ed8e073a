/-
  Plain laws of the lifted program, part 1.
-/
import Derived.Test.YtgnfpdlhibjeeaaGreatDoorLf1
import Derived.Test.YtgnfpdlhibjeeaaGreatDoorAmA
import Derived.Test.YtgnfpdlhibjeeaaGreatDoorAmD
import Derived.KernelRfl
import Derived.Test.YtgnfpdlhibjeeaaGreatDoorQ0
set_option linter.unusedVariables false
open List renaming getD_eq_getElem?_getD -> zA, mem_singleton -> I, mem_cons_of_mem -> R, mem_cons_self -> zE, take_of_length_le -> zF, mem_append -> zG, getElem?_eq_getElem -> zH, mem_cons -> zI, mem_or_eq_of_mem_set -> zJ, append_nil -> zK, getElem_append_left -> zM, getElem_mem -> zN, mem_of_mem_take -> zQ, map_append -> zS, contains_eq_mem -> zV, eq_nil_of_length_eq_zero -> zW, take_append_of_le_length -> zX, getElem_of_mem -> zY, drop_eq_getElem_cons -> zZ, pairwise_iff_getElem -> qA, append_assoc -> qB, length -> qC, getElem_set -> qE, drop_of_length_le -> qG, countP_le_length -> qH, mem_append_right -> qI, mem_append_left -> qK, replicate -> qL
open Int renaming eq_ofNat_of_zero_le -> Y, toNat_natCast -> zL, le_trans -> zO, le_of_lt -> qF, le_refl -> qJ, toNat -> qN
open Bool renaming and_eq_true_iff -> zP, and_eq_true -> zR
open Nat renaming le_refl -> zT, zero_le -> qD, le_trans -> qO
open SizeOf renaming sizeOf -> zU
open And renaming intro -> qM
open Go.AM.T (Ue fK gI qo sZ uz vD vE vS vX vY wJ wz xc xg xp xy z8 za zc zd ze zi)
namespace Go.AM.Lf
open T PL
theorem _root_.Go.AM.EO.uniq{m:Nat}{e:Expr}(h:EO m e):∀ {n:Nat},EO n e->m=n:=by
 induction h with
 | num=>intro n h; cases h; rfl
 | nam=>intro n h; cases h; rfl
 | neg _ ih =>
  intro n h
  cases h with
  | neg h=>rw[ih h]
 | bin a b _ _ ih jh =>
  intro n h
  cases h with
  | bin _ _ h k=>rw[ih h,jh k]
theorem _root_.Go.AM.EO.ks{n:Nat}{e:Expr}(h:EO n e):(∀ x∈e.kids,∃ k,EO k x)/\(∀ m,Va m e.kids->m+1=n)/\e.kids.length<=2/\(e.kind=2->nL e.name):=by
 cases h with
 | num=>exact⟨nofun,λm h=>by rw[Va.n0 h],by simp[Expr.kids],λh=>by simp[Expr.kind]at h⟩
 | nam h=>exact⟨nofun,λm h=>by rw[Va.n0 h],by simp[Expr.kids],λ_=>h⟩
 | neg h =>
  refine⟨λx U=>⟨_,I.1 U▸h⟩,λm hm => ?_,by simp[Expr.kids],λh=>by simp[Expr.kind]at h⟩
  obtain⟨i,j,rfl,h1,X⟩:=hm.inv [] _ rfl
  rw[h1.n0,X.uniq h]; omega
 | bin h1 X h3 h4 =>
  refine⟨λx U => ?_,λm hm => ?_,by simp[Expr.kids],λh=>by simp[Expr.kind]at h; omega⟩
  ·rcases zI.1 U with rfl | U
   ·exact⟨_,h3⟩
   ·exact⟨_,I.1 U▸h4⟩
  ·obtain⟨i,j,rfl,g1,g2⟩:=hm.inv [_] _ rfl
   obtain⟨i',j',rfl,g3,g4⟩:=g1.inv [] _ rfl
   rw[g3.n0,g2.uniq h4,g4.uniq h3]; omega
theorem _root_.Go.AM.Va.ex{l:List Expr}(h:∀ x∈l,∃ k,EO k x):∃ m,Va m l:=by
 have:∀ n,n<=l.length->∃ m,Va m (l.take n):=by
  intro n
  induction n with
  | zero=>exact λ_=>⟨0,by simpa using Va.nil⟩
  | succ n ih =>
   intro hn
   obtain⟨m,hm⟩:=ih (Z)
   obtain⟨k,hk⟩:=h l[n] (zN (Z))
   rw[List.take_succ_eq_append_getElem (Z)]
   exact⟨_,.snoc hm hk⟩
 simpa using this l.length (zT _)
theorem _root_.Go.AM.Va.uniq{m:Nat}{l:List Expr}(h:Va m l):∀ {n:Nat},Va n l->m=n:=by
 induction h with
 | nil=>intro n h; exact h.n0.symm
 | snoc _ h1 ih =>
  intro n h
  obtain⟨i,j,rfl,g1,g2⟩:=h.inv _ _ rfl
  rw[ih g1,h1.uniq g2]
theorem _root_.Go.AM.Va.le{m:Nat}{l:List Expr}(h:Va m l):∀ i,∃ k,Va k (l.take i)/\k<=m:=by
 induction h with
 | nil=>intro i; exact⟨0,by simpa using Va.nil,zT _⟩
 | @snoc m n l a h h1 ih =>
  intro i
  by_cases e:i<=l.length
  ·obtain⟨k,hk,hle⟩:=ih i
   rw[zX e]
   exact⟨k,hk,Z⟩
  ·rw[zF (by simp; omega)]
   exact⟨_,.snoc h h1,zT _⟩
theorem zb3{σ ρ:Type}(l:List Expr)(ix:σ->Int)(hb:Nat->σ->Prop){M:Nat}(hM:Va M l)(hA:∀ x∈l,∃ k,EO k x){r:σ->T (σ⊕ρ)}{Q:ρ->Prop}{s:σ}(hs:ix s=0/\hb 0 s)
  (step:∀ m k s x,hb m s->EO k x->x∈l->m+k<=M->nth l (ix s) (zb .expr)=x->0<=ix s->ix s<l.length->(r s).wp λz=>match z with | .inl s'=>ix s'=ix s+1/\hb (m+k) s' | .inr y=>Q y)
  (done:∀ s,hb M s->ix s=l.length->(r s).wp λz=>match z with | .inl _=>False | .inr y=>Q y):(T.loop r s).wp Q:=by
 refine cJ l (zb .expr) ix (λx=>x∈l) (λ_=>True) (λs=>0<=ix s/\∃ m,hb m s/\Va m (l.take (ix s).toNat)) (λ_ h=>h) ⟨hs.1,Z,0,hs.2,by rw[hs.1]; exact .nil⟩ (λs x ⟨h0,m,h1,X⟩ U he _ B => ?_) λs ⟨h0,m,h1,X⟩ he _ => ?_
 ·obtain⟨k,hk⟩:=hA x U
  have h3:=Va.snoc X hk
  rw[<- he,<- cV l _ (zb .expr) h0 B]at h3
  obtain⟨k',YB,hle⟩:=hM.le (ix s+1).toNat
  have:=h3.uniq YB
  refine xp (step m k s x h1 hk U (Z) he h0 B) λz hz => ?_
  cases z with
  | inl s'=>exact⟨hz.1,⟨Z,_,hz.2,by rw[hz.1]; exact h3⟩,trivial⟩
  | inr y=>exact hz
 ·rw[he,zL,List.take_length]at X
  exact done s (X.uniq hM▸h1) he
theorem OE{e x:Expr}(h:x∈e.kids):zU x<zU e:=by
 cases e
 have:=List.sizeOf_lt_of_mem h
 simp only[Expr.kids]at this
 simp; omega
instance (e:Expr) (a:List zn):Sp (pF e a) (EK e/\ss a/\a.length<=100000) (λr=>ss r/\r.length<=a.length+256):=⟨λh=>by
 obtain⟨⟨n,hn,he⟩,h⟩:=h
 unfold pF
 refine xp (P:=λr=>∀ n,EO n e->ss r/\r.length<=a.length+n) ?_ λr hr=>⟨(hr n he).1,by have:=(hr n he).2; omega⟩
 refine sZ (x:=(e,a)) (λ(e,a)=>(∃ n,EO n e/\a.length+n<=200000)/\ss a) (λ(e,_)=>zU e) (λ(e,a) r=>∀ n,EO n e->ss r/\r.length<=a.length+n) ?_ ?_ ⟨⟨n,he,Z⟩,h.1⟩
 ·intro g g' hg x
  unfold dM cL fp
  exact mono
 ·intro⟨e,a⟩ ⟨⟨n,he,hn⟩,h1⟩ g hg
  obtain⟨k1,k2,k3,k4⟩:=he.ks
  obtain⟨M,hM⟩:=Va.ex k1
  have k2:=k2 M hM
  have B:∀ d:List zn,ss d/\d.length<=a.length+1->(cL (λy0 y1=>g (y0,y1)) e.kids (Nat.cast e.kids.length:Int) (0,d)).wp λr=>ss r/\r.length<=a.length+n:=λd V=>by
   unfold cL fp
   refine zb3 e.kids (λ(i,_)=>i) (λm (_,c)=>ss c/\c.length<=a.length+1+m) hM k1 ⟨rfl,V⟩ (λm k ⟨i,c⟩ x hj hk U hle hxe h0 wO => ?_) λ⟨i,c⟩ hj hi => ?_
   ·dsimp only at h0 wO hxe
    refine ze (λ_=>qo ⟨h0,wO⟩ (zc (z8 (xc (xp (hg (nth e.kids i (zb .expr),c) ⟨⟨k,hxe▸hk,by have:=hj.2; omega⟩,hj.1⟩ (OE (hxe▸U))) λr hr=>zc (z8 (zd ?_))))))) λhf=>absurd wO (ga hf)
    have:=hr k (hxe▸hk)
    exact⟨qs (Z) (Z),this.1,by have:=hj.2; omega⟩
   ·dsimp only at hi
    refine ze (λht=>absurd (uC ht) (Z)) λ_=>zc (z8 (zd ⟨hj.1,by have:=hj.2; omega⟩))
  have hs:∀ d:List zn,Sp (cL (λy0 y1=>g (y0,y1)) e.kids (Nat.cast e.kids.length:Int) (0,d)) (ss d/\d.length<=a.length+1) (λr=>ss r/\r.length<=a.length+n):=λd=>⟨B d⟩
  have hq:∀ n',EO n' e->n'=n:=λn' h=>h.uniq he
  have k5:e.kind=2->e.name.length<=KK:=λh=>by have:=k4 h; unfold KK; omega
  clear hg B hM k1 k4
  unfold dM
  exact FF⟩
instance (l:List Expr) (s:Int×List zn):Sp (mG l (l.length:Int) s) (s.1=0/\l.length<=2/\(∀ x∈l,EK x)/\ss s.2/\s.2.length<=50000) (λr=>ss r/\r.length<=s.2.length+512):=⟨λh=>by
 unfold mG mH
 exact rY l (zb .expr) (λ(i,_)=>i) _ (λ_=>True) (λ(i,c)=>0<=i/\i<=2/\ss c/\(c.length:Int)<=s.2.length+256*i) h.2.2.1⟩
theorem EK.ks{e:Expr}(h:EK e):(∀ x∈e.kids,EK x)/\e.kids.length<=2/\(e.kind=2->e.name.length<=KK):=by
 obtain⟨n,hn,he⟩:=h
 obtain⟨k1,k2,k3,k4⟩:=he.ks
 obtain⟨M,hM⟩:=Va.ex k1
 refine⟨λx U => ?_,k3,λh=>by have:=k4 h; unfold KK; omega⟩
 obtain⟨k,hk⟩:=k1 x U
 have:=k2 M hM
 obtain⟨i,h0,h1,rfl⟩:=J0 (d:=zb .expr) U
 obtain⟨a,ha,ha'⟩:=hM.le i.toNat
 obtain⟨b,J,Yi⟩:=hM.le (i+1).toNat
 rw[cV _ _ (zb .expr) h0 h1]at J
 have:=J.uniq (.snoc ha hk)
 exact⟨k,Z,hk⟩
instance (e:Expr) (a:List zn):Sp (nq e a) (EK e/\ss a/\a.length<=10000) (λr=>ss r/\r.length<=a.length+600):=⟨λh=>by
 obtain⟨k1,k2,k3⟩:=EK.ks h.1
 unfold nq
 exact FF⟩
instance (e:Expr):Sp (dL e) (EK e) (λr=>ss r/\r.length<=600):=⟨λh=>by unfold dL oZ; exact FF⟩
instance (s:zn) (l:List zn):Sp (cv s l) (l.length<=1000000) (λ_=>True):=⟨λh=>by unfold cv; exact FF⟩
instance (e:Expr) (l:List zn):Sp (Ze e l) (EK e/\l.length<=1000000) (λ_=>True):=⟨λh=>by unfold Ze; exact FF⟩
instance (e:Expr) (l:List zn):Sp (iB e l) (EK e/\l.length<=1000000) (λ_=>True):=⟨λh=>by
 unfold iB
 refine sZ (x:=(e,l)) (λ(e,l)=>EK e/\l.length<=1000000) (λ(e,_)=>zU e) (λ_ _=>True) ?_ ?_ h
 ·intro g g' hg x
  unfold dC jm br dw yw j5
  exact mono
 ·intro⟨e,l⟩ ⟨he,B⟩ g hg
  obtain⟨k1,k2,k3⟩:=EK.ks he
  have hn:e.kids.length=2->EK (nth e.kids 0 (zb .expr))/\EK (nth e.kids 1 (zb .expr)):=λh=>⟨k1 _ (xj (Z) (Z)),k1 _ (xj (Z) (Z))⟩
  have hc:∀ x,Sp (j5 (λy0 y1=>g (y0,y1)) x l) (x∈e.kids) (λ_=>True):=λx=>⟨λU=>xc (xp (hg (x,l) ⟨k1 x U,B⟩ (OE U)) λ_ _=>zd trivial)⟩
  have hs:Sp (jm (λy0 y1=>g (y0,y1)) e.kids λx=>j5 (λy0 y1=>g (y0,y1)) x l) True (λ_=>True):=⟨λ_=>xp (cnq (ixq (d0:=zb .expr) (l:=e.kids) (c:=λx=>j5 (λy0 y1=>g (y0,y1)) x l) ⟨Z,λ_ h=>h⟩)) λ_ _=>trivial⟩
  clear hg k1 hc
  unfold dC
  exact FF⟩
instance (a:Param) (s:zn):Sp (uI a s) True (λ_=>True):=⟨λ_=>by unfold uI; exact FF⟩
instance (s:zn) (l:List zn) (f:Form):Sp (yJ s l f) (f.2.1.length<=8200/\l.length<=1000000) (λ_=>True):=⟨λh=>by unfold yJ; exact FF⟩
instance (a b c:List zn):Sp (jj [a,b,c]) (a.length+b.length+c.length<=1000000000/\ss a/\ss b/\ss c) (λr=>ss r/\r.length=a.length+b.length+c.length):=⟨λh=>by
 unfold jj
 refine zi ⟨qw,by simp; omega,qw⟩ (zd ⟨λx U => ?_,by simp; omega⟩)
 simp at U
 rcases U with k | k | k
 ·exact h.2.1 x k
 ·exact h.2.2.1 x k
 ·exact h.2.2.2 x k⟩
instance (f:Form) (d:List zn) (s:List zn×Int):Sp (mr f d f.2.2.2.2.2.1 (f.2.2.2.2.2.1.length:Int) s) (s.2=0/\f.2.2.2.2.2.1.length<=8200/\(∀ x∈f.2.2.2.2.2.1,EK x.2.2.2.1/\EK x.2.2.2.2.1)/\ss s.1/\s.1.length<=10) (λr=>ss r/\r.length<=20000000):=⟨λh=>by
 unfold mr mv
 exact rY f.2.2.2.2.2.1 (zb xi) (λ(_,i)=>i) _ (λ_=>True) (λ(c,i)=>0<=i/\i<=8200/\ss c/\(c.length:Int)<=s.1.length+1200*i) h.2.2.1⟩
instance (f:Form) (d:List zn) (s:List zn×Int):Sp (mu f d f.2.2.2.2.1 (f.2.2.2.2.1.length:Int) s) (s.2=0/\f.2.2.2.2.1.length<=8200/\(∀ x∈f.2.2.2.2.1,EK x.2.2.2.1/\EK x.2.2.2.2.1)/\ss s.1/\s.1.length<=20000000) (λr=>ss r/\r.length<=40000000):=⟨λh=>by
 unfold mu mw
 exact rY f.2.2.2.2.1 (zb xl) (λ(_,i)=>i) _ (λ_=>True) (λ(c,i)=>0<=i/\i<=8200/\ss c/\(c.length:Int)<=s.1.length+1200*i) h.2.2.1⟩
theorem FV.fe{f:Form}(h:FV f):(f.2.1.length<=8200/\f.2.2.2.1.length<=8200/\f.2.2.2.2.1.length<=8200/\f.2.2.2.2.2.1.length<=8200)/\(∀ x∈f.2.2.2.2.1,EK x.2.2.2.1/\EK x.2.2.2.2.1)/\(∀ x∈f.2.2.2.2.2.1,EK x.2.2.2.1/\EK x.2.2.2.2.1)/\(∀ x∈f.2.2.2.1,x.1.length<=KK):=by
 obtain⟨⟨_,⟨a2,_⟩,_,⟨a4,b4⟩,⟨a5,_⟩,a6,_⟩,_,_,_,_,c5,c6⟩:=h
 exact⟨⟨a2,a4,a5,a6⟩,λx U=>(c5 x U).2.2.2.2,λx U=>(c6 x U).2.2.2,b4⟩
instance (f:Form) (d:List zn):Sp (mY f d) (FV f/\d.length<=1000000) (λ_=>True):=⟨λh=>by
 obtain⟨h1,X,h3,_⟩:=FV.fe h.1
 unfold mY
 exact FF⟩
instance (l:List cf) (s:Int×List zn):Sp (oo l (l.length:Int) s) (s.1=0/\l.length<=8200/\(∀ x∈l,EK x.2.2.2.1/\EK x.2.2.2.2.1)/\s.2.length<=100000) (λr=>match r with | .inl _=>True | .inr z=>z.1≠0):=⟨λh=>by
 unfold oo ov
 exact rY l (zb xl) (λ(i,_)=>i) _ (λ_=>True) (λ(i,c)=>0<=i/\i<=8200/\c.length<=100000) h.2.2.1⟩
instance (f:Form):Sp (cx f) (FW 8200 f) (λr=>r.1=0->FV f/\f.2.2.2.1.length<=64/\f.2.2.2.2.1.length<=64):=⟨λh=>by
 have h1:FV f->_:=FV.fe
 unfold cx oZ
 exact FF⟩
open T PL
instance (a:Int):Sp (yG a) True (λ_=>True):=⟨λ_=>by unfold yG; exact lW⟩
instance (a:Int):Sp (yq a) True (λ_=>True):=⟨λ_=>by unfold yq jz; exact lW⟩
instance (f:Form):Sp (nY f) (FW 8200 f) (λ_=>True):=⟨λh=>by unfold nY; exact goq⟩
def PI(p:zf):Prop:=p.1.length<=1000000/\0<=p.2.1/\p.2.1<=p.1.length/\0<=p.2.2.1/\p.2.2.1<=31
def PG(p q:zf):Prop:=PI q/\q.1=p.1/\p.2.1<=q.2.1/\q.2.2.1=p.2.2.1
theorem Ww(l:zn)(c:UInt8) : -1<=UR l c/\UR l c<l.length:=by
 induction l with
 | nil=>simp[UR]
 | cons b l ih=>unfold UR; rw[List.length_cons]; split; omega; split<;>omega
theorem EW0:EW KK (Expr.mk 0 (false,[],[],()) [] []):=.mk ⟨vJ,vJ⟩ (by simp[rl]) (qw) (qw) nofun
theorem EWn(n:Lf.Rat)(h:rg n/\rl n<=1700):EW KK (Expr.mk 1 n [] []):=.mk h.1 (by unfold KK; omega) (qw) (qw) nofun
theorem EWz:EW KK (Expr.mk 1 (false,[],[],()) [] []):=.mk ⟨vJ,vJ⟩ (by simp[rl]) (qw) (qw) nofun
theorem EWs(s:zn)(h:s.length<=KK):EW KK (Expr.mk 2 (false,[],[],()) s []):=.mk ⟨vJ,vJ⟩ (by simp[rl]) h (qw) nofun
theorem EW1(k:Int)(a:Expr)(h:EW KK a):EW KK (Expr.mk k (false,[],[],()) [] [a]):=.mk ⟨vJ,vJ⟩ (by simp[rl]) (qw) (by unfold KK; simp) (by simpa using h)
theorem EW2(k:Int)(a b:Expr)(h:EW KK a)(g:EW KK b):EW KK (Expr.mk k (false,[],[],()) [] [a,b]):=.mk ⟨vJ,vJ⟩ (by simp[rl]) (qw) (by unfold KK; simp) (by simpa using⟨h,g⟩)
theorem gop{p:Prop} (h:p:=by
 intros
 repeat' (with_reducible first
  | refine zd ?_
  | refine ze (λ_ => ?_) (λ_ => ?_)
  | refine z8 ?_
  | refine zc ?_
  | refine uz ?_ ?_
  | refine qo ?_ ?_
  | refine vS ?_ ?_
  | refine wJ ?_ ?_
  | refine zi ?_ ?_
  | refine vX (λ_ _ => ?_) (λ_ _ => ?_)
  | refine za ?_ (λ_ _ => ?_)
  | refine vE ?_ (λ_ _ => ?_)
  | refine xc ?_
  | dsimp only)
 all_goals grind [xe,j6,dS,jv,jc,V4,VE,dQ,TJ,PI,PG,Ww,EW0,EWn,EWs,EW1,EW2,EWz]):p:=h
theorem lpp{σ ρ:Type}{r:σ->T (σ⊕ρ)}{Q:ρ->Prop}(zC:σ->Prop)(μ:σ->Nat){s:σ}(hs:zC s:=by grind [PI,PG])
  (h:∀ s,zC s->(r s).wp λz=>match z with | .inl s'=>zC s'/\μ s'<μ s | .inr y=>Q y:=by
 intros
 repeat' (with_reducible first
  | refine zd ?_
  | refine ze (λ_ => ?_) (λ_ => ?_)
  | refine z8 ?_
  | refine zc ?_
  | refine uz ?_ ?_
  | refine qo ?_ ?_
  | refine vS ?_ ?_
  | refine wJ ?_ ?_
  | refine zi ?_ ?_
  | refine vX (λ_ _ => ?_) (λ_ _ => ?_)
  | refine za ?_ (λ_ _ => ?_)
  | refine vE ?_ (λ_ _ => ?_)
  | refine xc ?_
  | dsimp only)
 all_goals grind [xe,j6,dS,jv,jc,V4,VE,dQ,TJ,PI,PG,Ww,EW0,EWn,EWs,EW1,EW2,EWz]):(T.loop r s).wp Q:=vY zC μ hs h
instance (p:zf):Sp (bN p) (PI p) (PG p):=⟨λh=>by
 unfold bN bO
 exact lpp (PG p) (λq=>(q.1.length-q.2.1).toNat)⟩
instance (e:zn) (p:zf):Sp (uJ e p) (PI p) (λr=>PG p r.2/\(r.1=0\/(0<=UR e (byteOf r.1)/\p.2.1<r.2.2.1))):=⟨λh=>by
 have e1:∀ x:Int,-1000000000<=x->x<=1000000000->q9 (q9 (x+1)-1)=x:=λx h0 h1=>by rw[qs (x:=x+1) (Z) (Z),qs (Z) (Z)]; omega
 unfold uJ dN strings_IndexByte
 exact gop⟩
instance (p:zf):Sp (kH p) (PI p) (λr=>match r with | .inl q=>PI q/\q.1=p.1/\q.2.1=p.2.1/\q.2.2.1=p.2.2.1+1 | .inr z=>z.1.1≠0):=⟨λh=>by
 unfold kH vp
 exact gop⟩
instance (c:Int->T Bool) [∀ x,Sp (c x) True (λ_=>True)] (m f:Int) (p:zf):Sp (cC c m f p) (PI p) (PG p):=⟨λh=>by
 unfold cC yr
 exact lpp (PG p) (λq=>(q.1.length-q.2.1).toNat)⟩
instance (c:Int->T Bool) [∀ x,Sp (c x) True (λ_=>True)] (m:Int) (p:zf):Sp (uK c m p) (PI p) (λr=>PG p r.2/\r.1.length<=1000000):=⟨λh=>by
 unfold uK
 exact gop⟩
instance (a:Int):Sp (jz a) True (λ_=>True):=⟨λ_=>by unfold jz; exact gop⟩
def PR(p:zf)(r:(Expr×zf)⊕(xh×zf)):Prop:=match r with | .inl z=>EW KK z.1/\PG p z.2 | .inr z=>z.1.1≠0
instance (p:zf):Sp (kG p) (PI p) (PR p):=⟨λh=>by
 unfold kG vp PR
 exact gop⟩
def PQ(p:zf)(r:(Expr×zf)⊕(xh×zf)):Prop:=(∀ z,r=.inl z->EW KK z.1/\PG p z.2)/\∀ z,r=.inr z->z.1.1≠0
theorem zgh{p:zf}{r:(Expr×zf)⊕(xh×zf)}(h:PR p r):PQ p r:=⟨λz e=>by subst e; exact h,λz e=>by subst e; exact h⟩
theorem zoK{p:Prop} (h:p:=by
 intros
 repeat' (with_reducible first
  | refine zd ?_
  | refine ze (λ_ => ?_) (λ_ => ?_)
  | refine z8 ?_
  | refine zc ?_
  | refine uz ?_ ?_
  | refine qo ?_ ?_
  | refine vS ?_ ?_
  | refine wJ ?_ ?_
  | refine zi ?_ ?_
  | refine vX (λ_ _ => ?_) (λ_ _ => ?_)
  | refine za ?_ (λ_ _ => ?_)
  | refine vE ?_ (λ_ _ => ?_)
  | refine xc ?_
  | dsimp only)
 all_goals grind [xe,j6,dS,jv,jc,PI,PG,PQ,Ww,EW0,EWn,EWs,EW1,EW2,EWz]):p:=h
theorem Td{g:zf->T ((Expr×zf)⊕(xh×zf))}{a0:Int}{s:zn}(hg:∀ y,PI y/\a0<y.2.1/\y.1=s->(g y).wp (PQ y))(p:zf)(hp:PI p/\a0<=p.2.1/\p.1=s):(vG g p).wp (PQ p):=by
 unfold vG
 refine sZ (x:=p) (λp=>PI p/\a0<=p.2.1/\p.1=s) (λp=>(p.1.length-p.2.1).toNat) (λp r=>PQ p r) ?_ ?_ hp
 ·intro F F' hF x
  unfold uB
  exact mono
 ·intro p hp F hF
  have h1:∀ y,Sp (F y) ((PI y/\a0<=y.2.1/\y.1=s)/\(y.1.length-y.2.1).toNat<(p.1.length-p.2.1).toNat) (PQ y):=λy=>⟨λh=>hF y h.1 h.2⟩
  have X:∀ y,Sp (g y) (PI y/\a0<y.2.1/\y.1=s) (PQ y):=λy=>⟨hg y⟩
  have h3:∀ p,Sp (kG p) (PI p) (PQ p):=λp=>⟨λh=>xp (Sp.sp h) λ_=>zgh⟩
  clear hF hg
  unfold uB vp
  exact zoK
open T PL
section
variable {g:zf->T ((Expr×zf)⊕(xh×zf))} {a0:Int} {s:zn}
theorem zj7(a b:UInt8):([a,b]:zn).length=2:=rfl
theorem Mj{p:Prop} (h:p:=by
 intros
 repeat' (with_reducible first
  | refine zd ?_
  | refine ze (λ_ => ?_) (λ_ => ?_)
  | refine z8 ?_
  | refine zc ?_
  | refine uz ?_ ?_
  | refine qo ?_ ?_
  | refine vS ?_ ?_
  | refine wJ ?_ ?_
  | refine zi ?_ ?_
  | refine vX (λ_ _ => ?_) (λ_ _ => ?_)
  | refine za ?_ (λ_ _ => ?_)
  | refine vE ?_ (λ_ _ => ?_)
  | refine xc ?_
  | dsimp only)
 all_goals grind [xe,PG,PQ,PI,Ww,EW0,EW2,zj7]):p:=h
theorem zaI{e:zn}(he:e.length=2)(k:xh)(hk:∀ y,PI y/\a0<=y.2.1/\y.1=s->(vG g y).wp (PQ y))(p:zf)(hp:PI p/\a0<=p.2.1/\p.1=s):(wm g () e k p).wp (PQ p):=by
 have h1:∀ y,Sp (vG g y) (PI y/\a0<=y.2.1/\y.1=s) (PQ y):=λy=>⟨hk y⟩
 clear hk
 have h5:∀ c,UR e c<2:=λc=>by have:=(Ww e c).2; omega
 have X:∀ z,Sp (vf g e k z) (PG p z.1/\EW KK z.2.2) (λr=>(∀ z,r=.inl z->EW KK z.2.1/\PG p z.1)/\∀ z,r=.inr z->z.1.1≠0):=λz=>⟨λh=>by
  unfold vf
  refine vY (λ(q,_,x)=>PG p q/\EW KK x) (λ(q,_,_)=>(q.1.length-q.2.1).toNat) h ?_
  unfold vi strings_IndexByte xe
  exact Mj⟩
 unfold wm
 exact Mj
theorem N7(hg:∀ y,PI y/\a0<y.2.1/\y.1=s->(g y).wp (PQ y))(p:zf)(hp:PI p/\a0<=p.2.1/\p.1=s):(vv g p).wp (PQ p):=by
 have h1:∀ e:zn,e.length=2->∀ k,Sp (wm g () e k p) True (PQ p):=λe he k=>⟨λ_=>zaI he k (Td hg) p hp⟩
 have X:=h1 [42,47] rfl
 clear h1 hg
 unfold vv
 exact Mj
theorem zaJ{e:zn}(he:e.length=2)(k:xh)(hk:∀ y,PI y/\a0<=y.2.1/\y.1=s->(vv g y).wp (PQ y))(p:zf)(hp:PI p/\a0<=p.2.1/\p.1=s):(wk g () e k p).wp (PQ p):=by
 have h1:∀ y,Sp (vv g y) (PI y/\a0<=y.2.1/\y.1=s) (PQ y):=λy=>⟨hk y⟩
 clear hk
 have h5:∀ c,UR e c<2:=λc=>by have:=(Ww e c).2; omega
 have X:∀ z,Sp (wX g e k z) (PG p z.1/\EW KK z.2.2) (λr=>(∀ z,r=.inl z->EW KK z.2.1/\PG p z.1)/\∀ z,r=.inr z->z.1.1≠0):=λz=>⟨λh=>by
  unfold wX
  refine vY (λ(q,_,x)=>PG p q/\EW KK x) (λ(q,_,_)=>(q.1.length-q.2.1).toNat) h ?_
  unfold wY strings_IndexByte xe
  exact Mj⟩
 unfold wk
 exact Mj
end
instance (p:zf):Sp (dt p) (PI p) (PQ p):=⟨λh=>by
 unfold dt
 refine sZ (x:=p) PI (λp=>(p.1.length-p.2.1).toNat) PQ ?_ ?_ h
 ·intro g g' hg x
  unfold yh wk wX wY vv wm vf vi vG uB
  exact mono
 ·intro p hp g hg
  have h1:=zaJ (g:=g) (a0:=p.2.1) (s:=p.1) (e:=[43,45]) rfl (3,4,()) (N7 λy h=>hg y h.1 (by grind [PI])) p ⟨hp,Z,rfl⟩
  have X:Sp (wk g () ([43,45]:zn) (3,4,()) p) True (PQ p):=⟨λ_=>h1⟩
  clear hg h1
  unfold yh
  exact Mj⟩
instance (s:zn):Sp (sb s) (s.length<=1000000) (λr=>EW KK r.1):=⟨λh=>by
 unfold sb iU vp gV gu
 exact Mj⟩
open T PL
def wd(l:List zn):Prop:=∀ s∈l,1<=s.length/\s.length<=20000
theorem z5o(c:UInt8):∀ (s cur:zn),cur.length+s.length<=20000->wd (cd c cur s)/\(cd c cur s).length<=s.length+1:=by
 intro s
 induction s with
 | nil=>intro cur h; unfold cd; split; exact⟨nofun,qw⟩; rename_i e; exact⟨λx U=>by rw[I.1 U]; have:=List.length_pos_iff.2 e; simp at h; omega,qw⟩
 | cons b s ih =>
  intro cur h
  rw[List.length_cons]at h
  unfold cd
  split
  ·split
   ·have:=ih [] (by simp; omega); exact⟨this.1,by rw[List.length_cons]; omega⟩
   ·rename_i e
    have:=ih [] (by simp; omega)
    refine⟨λx U => ?_,by simp; omega⟩
    rcases zI.1 U with rfl | U
    ·have:=List.length_pos_iff.2 e; omega
    ·exact this.1 x U
  ·have:=ih (cur++[b]) (by simp; omega)
   exact⟨this.1,by rw[List.length_cons]; omega⟩
instance (s:zn):Sp (ir s) (s.length<=20000) (λr=>wd r/\r.length<=20001/\(s.length=0->r.length=0)):=⟨λh=>by
 unfold ir strings_FieldsFunc
 have:=z5o 32 s [] (by simpa using h)
 refine xc (zi (Z) (zd (zd ⟨this.1,Z,λe => ?_⟩)))
 rw[zW e]; rfl⟩
theorem TB(l c:zn) : -1<=si l c/\si l c<l.length:=by
 induction l with
 | nil=>simp[si]
 | cons b l ih=>unfold si; rw[List.length_cons]; split; omega; split<;>omega
theorem gow{p:Prop} (h:p:=by
 intros
 repeat' (with_reducible first
  | refine zd ?_
  | refine ze (λ_ => ?_) (λ_ => ?_)
  | refine z8 ?_
  | refine zc ?_
  | refine uz ?_ ?_
  | refine qo ?_ ?_
  | refine vS ?_ ?_
  | refine wJ ?_ ?_
  | refine zi ?_ ?_
  | refine vX (λ_ _ => ?_) (λ_ _ => ?_)
  | refine za ?_ (λ_ _ => ?_)
  | refine vE ?_ (λ_ _ => ?_)
  | refine xc ?_
  | dsimp only)
 all_goals grind [xe,j6,dS,jv,vZ,jc,wd,dQ,TJ,OG,EW0,VE,V4,zj7,EB,BE]):p:=h
instance (b:zn):Sp (strings_IndexAny b [60,61]) (b.length<=1000000) (λr => -1<=r/\r<b.length):=⟨λh=>by
 unfold strings_IndexAny
 exact zi ⟨Z,qw,qw,qh⟩ (zd (TB _ _))⟩
instance (a b:zn):Sp (strings_HasPrefix a b) True (λr=>r=true->b.length<=a.length):=⟨λ_=>by unfold strings_HasPrefix kf; exact gow⟩
instance (a b:zn):Sp (strings_Contains a b) (a.length<=1000000) (λ_=>True):=⟨λh=>by unfold strings_Contains; exact gow⟩
instance (b v:zn):Sp (dY b v) (b.length<=20000/\v.length<=10) (λr=>EW KK r.1/\EW KK r.2.1):=⟨λh=>by
 have e1:([61]:zn).length=1:=rfl
 unfold dY
 exact gow⟩
instance (l:List zn) (n i:Int) (s:zn):Sp (nZ l n i s) (0<=i/\i<n) (λr=>r=true->l.length=n):=⟨λh=>by unfold nZ; exact gow⟩
instance (l:List zn) (i:Int):Sp (dZ l i) (wd l/\0<=i/\i<=10) (λr=>r.1.length<=20000):=⟨λh=>by
 have h1:∀ j:Int,0<=j->j<l.length->1<=(nth l j (zb .str)).length/\(nth l j (zb .str)).length<=20000:=λj h0 h1=>h.1 _ (xj h0 h1)
 unfold dZ
 exact gow⟩
open T PL
theorem jl{α:Type}{P:α->Prop}{l:List α}(h:∀ x∈l,P x){a:α}(ha:P a):∀ x∈l++[a],P x:=λx U=>by
 rcases zG.1 U with k | k
 ·exact h x k
 ·rw[I.1 k]; exact ha
def zcM(l:List Switch):Prop:=∀ x∈l,x.1.length<=KK
theorem zcN(l:List Switch)(x:Switch)(h:zcM l)(U:x.1.length<=KK):zcM (l++[x]):=jl h U
def zcE(l:List Param):Prop:=∀ x∈l,x.1.length<=KK/\rg x.2.1/\rl x.2.1<=1700
theorem zcF(l:List Param)(x:Param)(h:zcE l)(U:x.1.length<=KK/\rg x.2.1/\rl x.2.1<=1700):zcE (l++[x]):=jl h U
def zcG(l:List ct):Prop:=∀ x∈l,x.1.length<=KK/\x.2.1.length<=KK
theorem zcH(l:List ct)(x:ct)(h:zcG l)(U:x.1.length<=KK/\x.2.1.length<=KK):zcG (l++[x]):=jl h U
def zcz(l:List Field):Prop:=∀ x∈l,x.1.length<=KK
theorem zcA(l:List Field)(x:Field)(h:zcz l)(U:x.1.length<=KK):zcz (l++[x]):=jl h U
def zcK(l:List cf):Prop:=∀ x∈l,x.1.length<=KK/\x.2.2.1.length<=KK/\EW KK x.2.2.2.1/\EW KK x.2.2.2.2.1
theorem zcL(l:List cf)(x:cf)(h:zcK l)(U:x.1.length<=KK/\x.2.2.1.length<=KK/\EW KK x.2.2.2.1/\EW KK x.2.2.2.2.1):zcK (l++[x]):=jl h U
def zcw(l:List Check):Prop:=∀ x∈l,x.1.length<=KK/\EW KK x.2.2.2.1/\EW KK x.2.2.2.2.1
theorem zcx(l:List Check)(x:Check)(h:zcw l)(U:x.1.length<=KK/\EW KK x.2.2.2.1/\EW KK x.2.2.2.2.1):zcw (l++[x]):=jl h U
def E6(b:List Switch)(c:List Param)(d:List ct)(e:List Field)(f:List cf)(g:List Check):Prop:=zcM b/\zcE c/\zcG d/\zcz e/\zcK f/\zcw g
def c6(b:List Switch)(c:List Param)(d:List ct)(e:List Field)(f:List cf)(g:List Check):Nat:=b.length+c.length+d.length+e.length+f.length+g.length
theorem Mk{p:Prop} (h:p:=by
 intros
 repeat' (with_reducible first
  | refine zd ?_
  | refine ze (λ_ => ?_) (λ_ => ?_)
  | refine z8 ?_
  | refine zc ?_
  | refine uz ?_ ?_
  | refine qo ?_ ?_
  | refine vS ?_ ?_
  | refine wJ ?_ ?_
  | refine zi ?_ ?_
  | refine vX (λ_ _ => ?_) (λ_ _ => ?_)
  | refine za ?_ (λ_ _ => ?_)
  | refine vE ?_ (λ_ _ => ?_)
  | refine xc ?_
  | dsimp only)
 all_goals grind [xe,j6,dS,jv,vZ,zu,jc,E6,c6,List.length_append,List.length_singleton,VE,V4,zcN,zcF,zcH,zcA,zcL,zcx]):p:=h
section
variable (a:List zn) (u:Unit) (b:List Switch) (c:List Param) (d:List ct) (e:List Field) (f:List cf) (g:List Check)
theorem wd1{l:List zn}(h:wd l)(j:Int)(h0:0<=j)(h1:j<l.length):1<=(nth l j (zb .str)).length/\(nth l j (zb .str)).length<=20000:=h _ (xj h0 h1)
variable (s:zn)
instance:Sp (kl a u b c d e f g) (E6 b c d e f g/\c6 b c d e f g<=20000/\wd a) (λr=>E6 r.2.2.1 r.2.2.2.1 r.2.2.2.2.1 r.2.2.2.2.2.1 r.2.2.2.2.2.2.1 r.2.2.2.2.2.2.2/\c6 r.2.2.1 r.2.2.2.1 r.2.2.2.2.1 r.2.2.2.2.2.1 r.2.2.2.2.2.2.1 r.2.2.2.2.2.2.2<=c6 b c d e f g+1):=⟨λh=>by
 have h1:=wd1 h.2.2
 unfold kl
 exact Mk⟩
instance:Sp (kY a u b c d e f g) (E6 b c d e f g/\c6 b c d e f g<=20000/\wd a) (λr=>E6 r.2.2.1 r.2.2.2.1 r.2.2.2.2.1 r.2.2.2.2.2.1 r.2.2.2.2.2.2.1 r.2.2.2.2.2.2.2/\c6 r.2.2.1 r.2.2.2.1 r.2.2.2.2.1 r.2.2.2.2.2.1 r.2.2.2.2.2.2.1 r.2.2.2.2.2.2.2<=c6 b c d e f g+1):=⟨λh=>by
 have h1:=wd1 h.2.2
 unfold kY
 exact Mk⟩
instance:Sp (ko a u b c d e f g) (E6 b c d e f g/\c6 b c d e f g<=20000/\wd a) (λr=>E6 r.2.2.1 r.2.2.2.1 r.2.2.2.2.1 r.2.2.2.2.2.1 r.2.2.2.2.2.2.1 r.2.2.2.2.2.2.2/\c6 r.2.2.1 r.2.2.2.1 r.2.2.2.2.1 r.2.2.2.2.2.1 r.2.2.2.2.2.2.1 r.2.2.2.2.2.2.2<=c6 b c d e f g+1):=⟨λh=>by
 have h1:=wd1 h.2.2
 unfold ko
 exact Mk⟩
set_option maxHeartbeats 2000000 in
instance:Sp (kZ a u b c d e f g) (E6 b c d e f g/\c6 b c d e f g<=20000/\wd a) (λr=>E6 r.2.2.1 r.2.2.2.1 r.2.2.2.2.1 r.2.2.2.2.2.1 r.2.2.2.2.2.2.1 r.2.2.2.2.2.2.2/\c6 r.2.2.1 r.2.2.2.1 r.2.2.2.2.1 r.2.2.2.2.2.1 r.2.2.2.2.2.2.1 r.2.2.2.2.2.2.2<=c6 b c d e f g+1):=⟨λh=>by
 have h1:=wd1 h.2.2
 unfold kZ
 exact Mk⟩
instance:Sp (jK a s u b c d e f g) (E6 b c d e f g/\c6 b c d e f g<=20000/\wd a/\s.length<=20000) (λr=>E6 r.2.2.1 r.2.2.2.1 r.2.2.2.2.1 r.2.2.2.2.2.1 r.2.2.2.2.2.2.1 r.2.2.2.2.2.2.2/\c6 r.2.2.1 r.2.2.2.1 r.2.2.2.2.1 r.2.2.2.2.2.1 r.2.2.2.2.2.2.1 r.2.2.2.2.2.2.2<=c6 b c d e f g+1):=⟨λh=>by
 have h1:=wd1 h.2.2.1
 unfold jK
 exact Mk⟩
instance:Sp (kt a s u b c d e f g) (E6 b c d e f g/\c6 b c d e f g<=20000/\wd a/\s.length<=20000) (λr=>E6 r.2.2.1 r.2.2.2.1 r.2.2.2.2.1 r.2.2.2.2.2.1 r.2.2.2.2.2.2.1 r.2.2.2.2.2.2.2/\c6 r.2.2.1 r.2.2.2.1 r.2.2.2.2.1 r.2.2.2.2.2.1 r.2.2.2.2.2.2.1 r.2.2.2.2.2.2.2<=c6 b c d e f g+1):=⟨λh=>by
 have h1:=wd1 h.2.2.1
 unfold kt
 exact Mk⟩
end
open T PL
instance (a:zn):Sp (strings_Cut a [58]) (a.length<=1000000000) (λr=>r.1.length+r.2.1.length<=a.length/\(a.length=0->r.2.2=false)):=⟨λh=>by
 obtain⟨r,h1,X⟩:=T.fK.1 ((inferInstance:Sp (strings_Cut a [58]) (a.length<=1000000000) (λr=>r.1.length+r.2.1.length<=a.length)).sp h)
 refine gI h1 ⟨X,λe => ?_⟩
 obtain rfl:=zW e
 unfold strings_Cut at h1
 rw[xg (qw),xy]at h1
 cases h1; rfl⟩
theorem zoL{p:Prop} (h:p:=by
 intros
 repeat' (with_reducible first
  | refine zd ?_
  | refine ze (λ_ => ?_) (λ_ => ?_)
  | refine z8 ?_
  | refine zc ?_
  | refine uz ?_ ?_
  | refine qo ?_ ?_
  | refine vS ?_ ?_
  | refine wJ ?_ ?_
  | refine zi ?_ ?_
  | refine vX (λ_ _ => ?_) (λ_ _ => ?_)
  | refine za ?_ (λ_ _ => ?_)
  | refine vE ?_ (λ_ _ => ?_)
  | refine xc ?_
  | dsimp only)
 all_goals grind [xe]):p:=h
set_option maxHeartbeats 2000000 in
instance (s:zn) (u:Unit) (b:List Switch) (c:List Param) (d:List ct) (e:List Field) (f:List cf) (g:List Check):Sp (j7 s u b c d e f g) (E6 b c d e f g/\c6 b c d e f g<=20000/\s.length<=20000)
  (λr=>E6 r.2.2.1 r.2.2.2.1 r.2.2.2.2.1 r.2.2.2.2.2.1 r.2.2.2.2.2.2.1 r.2.2.2.2.2.2.2/\c6 r.2.2.1 r.2.2.2.1 r.2.2.2.2.1 r.2.2.2.2.2.1 r.2.2.2.2.2.2.1 r.2.2.2.2.2.2.2<=c6 b c d e f g+1/\(s.length=0->c6 r.2.2.1 r.2.2.2.1 r.2.2.2.2.1 r.2.2.2.2.2.1 r.2.2.2.2.2.2.1 r.2.2.2.2.2.2.2=c6 b c d e f g)):=⟨λh=>by
 have h1 := @wd1
 unfold j7
 exact zoL⟩
def sX(l:List zn):Nat:=(l.map λs=>s.length+1).sum
theorem IZ(a b:List zn):sX (a++b)=sX a+sX b:=by unfold sX; rw[zS,List.sum_append]
theorem z4Z(c:UInt8):∀ s:zn,sX (eT c s)=s.length+1/\∀ x∈eT c s,x.length<=s.length:=by
 intro s
 induction s with
 | nil=>exact⟨rfl,by simp[eT]⟩
 | cons b s ih =>
  unfold eT
  split
  ·refine⟨by have:=ih.1; unfold sX at *; simp; omega,λx U => ?_⟩
   rcases zI.1 U with rfl | U
   ·simp
   ·have:=ih.2 x U; simp; omega
  ·revert ih
   generalize eT c s=l
   intro ih
   cases l with
   | nil=>have:=ih.1; simp[sX]at this
   | cons y l =>
    refine⟨by have:=ih.1; unfold sX z4H at *; simp at *; omega,λx U => ?_⟩
    rcases zI.1 U with rfl | U
    ·have:=ih.2 y zE; simp; omega
    ·have:=ih.2 x (R _ U); simp; omega
instance (s:zn):Sp (strings_Split s [10]) (s.length<=1000000) (λr=>sX r=s.length+1/\(∀ x∈r,x.length<=s.length)/\r.length<=s.length+1):=⟨λh=>by
 unfold strings_Split
 have h1:=z4Z 10 s
 refine zi ⟨Z,rfl⟩ (zd ⟨h1.1,h1.2,?_⟩)
 have:∀ l:List zn,l.length<=sX l:=λl=>by
  induction l with
  | nil=>simp
  | cons a l ih=>unfold sX at *; simp; omega
 have:=this (eT 10 s)
 show(eT 10 s).length<=_
 omega⟩
open T PL
abbrev F0:Form:=([],[],[],[],[],[],())
def F9(f:Form):Prop:=FW 8200 f/\∀ x∈f.2.1,rl x.2.1<=1700
theorem z0S{b:List Switch}{c:List Param}{d:List ct}{e:List Field}{f:List cf}{g:List Check}(h:E6 b c d e f g)(k:c6 b c d e f g<=8200):F9 (b,c,d,e,f,g,()):=by
 obtain⟨h1,X,h3,h4,h5,h6⟩:=h
 unfold c6 at k
 unfold F9 FW
 dsimp only
 exact⟨⟨⟨Z,h1⟩,⟨Z,λx U=>⟨(X x U).1,(X x U).2.1,qO (X x U).2.2 (qh)⟩⟩,⟨Z,h3⟩,⟨Z,h4⟩,⟨Z,h5⟩,Z,h6⟩,λx U=>(X x U).2.2⟩
theorem E60:E6 [] [] [] [] [] []:=⟨nofun,nofun,nofun,nofun,nofun,nofun⟩
theorem CH(l:List zn)(i:Int)(h0:0<=i)(h1:i<l.length):sX (l.take (i+1).toNat)=sX (l.take i.toNat)+((nth l i (zb .str)).length+1):=by
 rw[cV l i (zb .str) h0 h1,IZ]; rfl
theorem Eh(l:List zn)(n:Nat):sX (l.take n)<=sX l:=by
 have:=IZ (l.take n) (l.drop n)
 rw[List.take_append_drop]at this
 omega
theorem z7D{p:Prop} (h:p:=by
 intros
 repeat' (with_reducible first
  | refine zd ?_
  | refine ze (λ_ => ?_) (λ_ => ?_)
  | refine z8 ?_
  | refine zc ?_
  | refine uz ?_ ?_
  | refine qo ?_ ?_
  | refine vS ?_ ?_
  | refine wJ ?_ ?_
  | refine zi ?_ ?_
  | refine vX (λ_ _ => ?_) (λ_ _ => ?_)
  | refine za ?_ (λ_ _ => ?_)
  | refine vE ?_ (λ_ _ => ?_)
  | refine xc ?_
  | dsimp only)
 all_goals grind [xe,zu,jc,yg]):p:=h
instance (u:List zn) (s0):Sp (bT u (u.length:Int) s0) (s0=(0,(),(),[],[],[],[],[],[],[],[],[],[],[],[])/\sX u<=16385/\(∀ x∈u,x.length<=20000)/\u.length<=100000)
  (λz=>match z with | .inl (_,_,_,n,_,o,_,p,_,q,_,r,_,s)=>E6 p q r s o n/\c6 p q r s o n<=8200 | .inr z=>z.2.2.1=F0):=⟨λh=>by
 obtain⟨rfl,h1,X,h3⟩:=h
 unfold bT
 refine cJ u (zb .str) (λ(m,_)=>m) (λx=>x.length<=20000) (λ_=>True) (λ(m,_,_,_,n,_,o,_,p,_,q,_,r,_,s)=>0<=m/\E6 p q r s o n/\2*c6 p q r s o n<=sX (u.take m.toNat)) X ⟨rfl,Z,E60,qD _⟩ (λ⟨m,y,z,a,n,b,o,c,p,d,q,e,r,f,s⟩ x ⟨h0,h4,h5⟩ U he _ hm => ?_) λ⟨m,y,z,a,n,b,o,c,p,d,q,e,r,f,s⟩ ⟨h0,h4,h5⟩ hm _ => ?_
 ·have h6:=CH u m h0 hm
  have h7:=Eh u m.toNat
  have h8:=he▸U
  dsimp only at hm
  clear U he X
  unfold bU
  exact z7D
 ·have h7:=Eh u m.toNat
  dsimp only at hm
  unfold bU
  exact z7D⟩
theorem Ev{α:Type}{t:T α}{P Q:α->Prop}(h:t.wp P)(k:t.wp Q):t.wp λa=>P a/\Q a:=by
 obtain⟨a,h1,X⟩:=T.fK.1 h
 exact gI h1 ⟨X,Ue k h1⟩
theorem zf9(P:Form->Prop)(h0:P F0)(h1:∀ {b c d e f g},E6 b c d e f g->c6 b c d e f g<=8200->P (b,c,d,e,f,g,()))(s:zn)(hv:∀ {f},P f->FW 8200 f):(il s).wp (λr=>P r.1):=by
 unfold il oZ
 refine ze (λ_=>zd h0) λB=>za (by have:=ga B; omega) λu hu => ?_
 have B:=ga B
 have X:sX u<=16385/\(∀ x∈u,x.length<=20000)/\u.length<=100000:=⟨Z,λx U=>by have:=hu.2.1 x U; omega,Z⟩
 clear hu
 exact z7D
instance (s:zn):Sp (il s) True (λr=>F9 r.1):=⟨λ_=>zf9 F9 (z0S E60 (by simp[c6])) z0S s And.left⟩
instance (f:Form):Sp (mE f) (FW 8200 f) (λr=>F9 r):=⟨λh=>by unfold mE; exact z7D⟩
open T PL
theorem Oy(c:UInt8):∀ w q:zn,c ∉ w->V8 (w++c::q) [c]=w.length
 | [],q,_=>by simp[V8]
 | b::w,q,h=>by
  have h1:b≠c:=λe=>h (e▸zE)
  have:=Oy c w q λk=>h (R _ k)
  show(if[c].isPrefixOf (b::(w++c::q))then(0:Int)else _)=_
  rw[if_neg (by simp[Ne.symm h1])]
  show(if(V8 (w++c::q) [c] == -1)=true then(-1:Int)else V8 (w++c::q) [c]+1)=_
  rw[this]
  simp
theorem BY(c:UInt8):∀ s:zn,c ∉ s->V8 s [c] = -1
 | [],_=>rfl
 | b::s,h=>by
  have h1:b≠c:=λe=>h (e▸zE)
  show(if[c].isPrefixOf (b::s)then(0:Int)else _)=_
  rw[if_neg (by simp[Ne.symm h1]),BY c s λk=>h (R _ k)]
  rfl
theorem M9{k t:zn}(hk:(58:UInt8) ∉ k)(ht:sps t):∃ t' x i,Uz (k++t) [58]=(k++t',x,i)/\sps t'/\((58:UInt8) ∉ t->t'=t):=by
 unfold Uz
 by_cases h:(58:UInt8)∈t
 ·obtain⟨a,b,rfl,ha⟩:=List.eq_append_cons_of_mem h
  have e:=Oy 58 (k++a) b (by simp[hk,ha])
  rw[qB]at e
  rw[e,if_pos (Z)]
  have e2:((qC (k++a):Nat):Int).toNat=(k++a).length:=Z
  rw[e2,<- qB k a,List.take_left' rfl]
  refine⟨a,_,_,rfl,?_,λh=>absurd (qw) h⟩
  cases a with
  | nil=>exact .inl rfl
  | cons y a=>exact .inr (by rcases ht with ht | ht<;>simp at ht ⊢; exact ht)
 ·rw[BY 58 (k++t) (by simp[hk,h])]
  exact⟨t,_,_,rfl,ht,λ_=>rfl⟩
theorem Ld:∀ (w cur s:zn),(32:UInt8) ∉ w->cur++w≠[]->cd 32 cur (w++32::s)=(cur++w)::cd 32 [] s
 | [],cur,s,_,h=>by
  have h:cur≠[]:=by simpa using h
  show(if(32:UInt8)=32 then _ else _)=_
  rw[if_pos rfl,if_neg h,zK]
 | b::w,cur,s,h,h1=>by
  have J:b≠32:=λe=>h (e▸zE)
  show(if b=32 then _ else _)=_
  rw[if_neg J]
  show cd 32 (cur++[b]) (w++32::s)=_
  rw[Ld w (cur++[b]) s (λk=>h (R _ k)) (qw)]
  simp
theorem z5n:∀ (w cur:zn),(32:UInt8) ∉ w->cur++w≠[]->cd 32 cur w=[cur++w]
 | [],cur,_,h=>by
  have h:cur≠[]:=by simpa using h
  unfold cd
  rw[if_neg h,zK]
 | b::w,cur,h,h1=>by
  have J:b≠32:=λe=>h (e▸zE)
  show(if b=32 then _ else _)=_
  rw[if_neg J,z5n w (cur++[b]) (λk=>h (R _ k)) (qw)]
  simp
theorem VY{n:zn}(h:okN n):(32:UInt8) ∉ n/\(58:UInt8) ∉ n:=⟨λk=>by have:=h.2 _ k; simp at this,λk=>by have:=h.2 _ k; simp at this⟩
theorem znF{n t:zn}(h:okN n)(ht:sps t):cd 32 [] (n++t)=n::cd 32 [] t:=by
 rcases ht with rfl | ht
 ·rw[zK,z5n n [] (VY h).1 h.1]; rfl
 ·cases t with
  | nil=>cases ht
  | cons y t =>
   obtain rfl:y=32:=by simpa using ht
   rw[Ld n [] t (VY h).1 h.1]
   rfl
def Rd(N:zn->Prop)(a:List zn)(p:List (zn×zn))(b:List Switch)(c:List Param)(d:List ct)(e:List Field)(f:List cf)(g:List Check):Prop :=
 b.map (·.1)=a/\d.map Kk=p/\(∀ x∈c,N x.1)/\(∀ x∈e,N x.1)/\(∀ x∈f,N x.1)/\∀ x∈g,N x.1
section
variable {N:zn->Prop} {A:List zn} {p:List (zn×zn)} {b:List Switch} {c:List Param} {d:List ct} {e:List Field} {f:List cf} {g:List Check}
theorem Rd.sw(h:Rd N A p b c d e f g)(x:Switch):Rd N (A++[x.1]) p (b++[x]) c d e f g:=⟨by rw[zS,h.1]; rfl,h.2⟩
theorem Rd.pa(h:Rd N A p b c d e f g)(x:Param)(k:N x.1):Rd N A p b (c++[x]) d e f g:=⟨h.1,h.2.1,jl h.2.2.1 k,h.2.2.2⟩
theorem Rd.pg(h:Rd N A p b c d e f g)(x:ct):Rd N A (p++[Kk x]) b c (d++[x]) e f g:=⟨h.1,by rw[zS,h.2.1]; rfl,h.2.2⟩
theorem Rd.fi(h:Rd N A p b c d e f g)(x:Field)(k:N x.1):Rd N A p b c d (e++[x]) f g:=⟨h.1,h.2.1,h.2.2.1,jl h.2.2.2.1 k,h.2.2.2.2⟩
theorem Rd.ru(h:Rd N A p b c d e f g)(x:cf)(k:N x.1):Rd N A p b c d e (f++[x]) g:=⟨h.1,h.2.1,h.2.2.1,h.2.2.2.1,jl h.2.2.2.2.1 k,h.2.2.2.2.2⟩
theorem Rd.ch(h:Rd N A p b c d e f g)(x:Check)(k:N x.1):Rd N A p b c d e f (g++[x]):=⟨h.1,h.2.1,h.2.2.1,h.2.2.2.1,h.2.2.2.2.1,jl h.2.2.2.2.2 k⟩
end
abbrev R8:=(Unit)×(List Switch)×(List Param)×(List ct)×(List Field)×(List cf)×(List Check)
def Lq(N:zn->Prop)(A:List zn)(p:List (zn×zn))(r:R8):Prop:=Rd N A p r.2.1 r.2.2.1 r.2.2.2.1 r.2.2.2.2.1 r.2.2.2.2.2.1 r.2.2.2.2.2.2
section
variable {N:zn->Prop} {A:List zn} {p:List (zn×zn)} (a:List zn) {u:Unit} {b:List Switch} {c:List Param} {d:List ct} {e:List Field} {f:List cf} {g:List Check} (s:zn)
theorem oa{α A hl C D κ' F:Type}{a:List A}{b:List hl}{c:List C}{d:List D}{e:List κ'}{f:List F}{t:T α}{Q:α->Prop}(k:t.wp Q):(oY a b c d e f t).wp Q :=
 zc (zc (zc (zc (zc (zc (z8 (z8 (z8 (z8 (z8 (z8 k)))))))))))
theorem MG(J:E6 b c d e f g/\c6 b c d e f g<=20000/\wd a)(h:Rd N A p b c d e f g):(kl a u b c d e f g).wp λr=>r.1=true->Lq N (A++[nth a 1 (zb .str)]) p r.2:=by
 have h1:=wd1 J.2.2
 unfold kl
 refine xc (xp (P:=λz:Bool×R8=>z.2=((),b,c,d,e,f,g)/\(z.1=false->a.length=3)) ?_ ?_)
 ·exact Mk
 ·rintro⟨q,r⟩ ⟨rfl,B⟩
  refine ze (λ_=>oa (zd nofun)) λq => ?_
  have B:=B q
  have hc:=J.2.1
  unfold c6 at hc
  refine qo ⟨qh,Z⟩ (qo ⟨qh,Z⟩ (vS (Z) (zi ⟨qw,rfl,qw⟩ (zc (zc (zc (zc (zc (zi (qw) (z8 (z8 (z8 (z8 (z8 (zd λ_=>h.sw _)))))))))))))))
theorem TF(J:E6 b c d e f g/\c6 b c d e f g<=20000/\wd a)(h:Rd N A p b c d e f g)(hN:N (nth a 1 (zb .str))):(kY a u b c d e f g).wp λr=>r.1=true->Lq N A p r.2:=by
 have h1:=wd1 J.2.2
 unfold kY
 refine xc (xp (P:=λz:Bool×R8=>z.2=((),b,c,d,e,f,g)/\(z.1=false->a.length=3)) ?_ ?_)
 ·exact Mk
 ·rintro⟨q,r⟩ ⟨rfl,B⟩
  refine ze (λ_=>oa (zd nofun)) λq => ?_
  have B:=B q
  have hc:=J.2.1
  unfold c6 at hc
  exact qo ⟨qh,Z⟩ (za trivial λ⟨n,k⟩ _=>qo ⟨qh,Z⟩ (vS (Z) (zc (zi ⟨qw,rfl,qw⟩ (zc (zc (zc (zc (z8 (zi (qw) (z8 (z8 (z8 (z8 (zd λ_=>h.pa _ hN)))))))))))))))
theorem z7F(l:List zn)(i:Int)(h:wd l/\0<=i/\i<=10):(dZ l i).wp λr=>r.2=true->((l.length:Int)=i/\r.1=[])\/((l.length:Int)=i+2/\r.1=nth l (i+1) (zb .str)):=by
 have h1:∀ j:Int,0<=j->j<l.length->1<=(nth l j (zb .str)).length/\(nth l j (zb .str)).length<=20000:=λj h0 h1=>h.1 _ (xj h0 h1)
 unfold dZ
 exact gow
theorem Ny(J:E6 b c d e f g/\c6 b c d e f g<=20000/\wd a)(h:Rd N A p b c d e f g):(ko a u b c d e f g).wp λr=>r.1=true->∃ w,((a.length=2/\w=[])\/(a.length=4/\w=nth a 3 (zb .str)))/\Lq N A (p++[(nth a 1 (zb .str),w)]) r.2:=by
 have h1:=wd1 J.2.2
 unfold ko
 refine xc (xp (P:=λz:Bool×R8=>z.2=((),b,c,d,e,f,g)/\(z.1=false->2<=a.length)) ?_ ?_)
 ·exact Mk
 ·rintro⟨q,r⟩ ⟨rfl,B⟩
  refine ze (λ_=>oa (zd nofun)) λq => ?_
  have B:=B q
  have hc:=J.2.1
  unfold c6 at hc
  refine xc (xp (z7F a 2 ⟨J.2.2,qh,qh⟩) λ⟨w,k⟩ hw => ?_)
  exact qo ⟨qh,Z⟩ (vS (Z) (zc (zc (zi ⟨qw,rfl,qw⟩ (zc (zc (zc (z8 (z8 (zi (qw) (z8 (z8 (z8 (zd λe=>⟨w,(hw e).imp (λz=>⟨Z,z.2⟩) λz=>⟨Z,z.2⟩,h.pg _⟩))))))))))))))
set_option maxHeartbeats 2000000 in
theorem L6(J:E6 b c d e f g/\c6 b c d e f g<=20000/\wd a)(h:Rd N A p b c d e f g)(hN:N (nth a 1 (zb .str))):(kZ a u b c d e f g).wp λr=>r.1=true->Lq N A p r.2:=by
 have h1:=wd1 J.2.2
 have X:=λz=>h.fi z
 unfold kZ
 refine xc (xp (P:=λz:Bool×R8=>z.2=((),b,c,d,e,f,g)/\(z.1=false->2<=a.length)) ?_ ?_)
 ·exact Mk
 ·rintro⟨q,r⟩ ⟨rfl,B⟩
  refine ze (λ_=>oa (zd nofun)) λq => ?_
  have B:=B q
  unfold Lq
  dsimp only
  clear h
  exact Mk
theorem L5(J:E6 b c d e f g/\c6 b c d e f g<=20000/\wd a/\s.length<=20000)(h:Rd N A p b c d e f g)(hN:N (nth a 1 (zb .str))):(jK a s u b c d e f g).wp λr=>r.1=0->Lq N A p r.2:=by
 have h1:=wd1 J.2.2.1
 have X:=λz=>h.ch z
 unfold jK
 refine xc (xp (P:=λz:Bool×R8=>z.2=((),b,c,d,e,f,g)/\(z.1=false->a.length=2)) ?_ ?_)
 ·exact Mk
 ·rintro⟨q,r⟩ ⟨rfl,B⟩
  refine ze (λ_=>oa (zd nofun)) λq => ?_
  have B:=B q
  unfold Lq
  dsimp only
  clear h
  exact Mk
theorem Nz(J:E6 b c d e f g/\c6 b c d e f g<=20000/\wd a/\s.length<=20000)(h:Rd N A p b c d e f g)(hN:N (nth a 2 (zb .str))):(kt a s u b c d e f g).wp λr=>r.1=0->Lq N A p r.2:=by
 have h1:=wd1 J.2.2.1
 have X:=λz=>h.ru z
 unfold kt
 refine xc (xp (P:=λz:Bool×R8=>z.2=((),b,c,d,e,f,g)/\(z.1=false->3<=a.length)) ?_ ?_)
 ·exact Mk
 ·rintro⟨q,r⟩ ⟨rfl,B⟩
  refine ze (λ_=>oa (zd nofun)) λq => ?_
  have B:=B q
  unfold Lq
  dsimp only
  clear h
  exact Mk
theorem Ek(w0:zn)(rest:List zn){z6 K:zn}{i:Bool}{A':List zn}{p':List (zn×zn)}(J:E6 b c d e f g/\c6 b c d e f g<=20000/\s.length<=20000)(h:Rd N A p b c d e f g)
  (hc:Uz s [58]=(z6,K,i)) (hw:cd 32 [] z6=w0::rest) (h0:vx w0 0≠35)
  (h1:w0=[115,119,105,116,99,104]->A'=A++[nth (w0::rest) 1 (zb .str)]/\p'=p) (X:w0=[112,97,103,101]->A'=A/\∀ w,((rest.length=1/\w=[])\/(rest.length=3/\w=nth (w0::rest) 3 (zb .str)))->p'=p++[(nth (w0::rest) 1 (zb .str),w)])
  (h3:w0=[112,97,114,97,109]\/w0=[102,105,101,108,100]\/w0=[99,104,101,99,107]->A'=A/\p'=p/\N (nth (w0::rest) 1 (zb .str))) (h4:w0=[114,117,108,101]->A'=A/\p'=p/\N (nth (w0::rest) 2 (zb .str))) :
  (j7 s u b c d e f g).wp λr=>r.1=0->Lq N A' p' r.2:=by
 have B:z6.length+K.length<=s.length:=by
  have:=(inferInstance:Sp (strings_Cut s [58]) (s.length<=1000000000) (λr=>r.1.length+r.2.1.length<=s.length/\(s.length=0->r.2.2=false))).sp (Z)
  unfold strings_Cut at this
  have:=Ue this (xg (Z) _ |>.trans (xy _))
  rw[hc]at this
  exact this.1
 have V:wd (w0::rest):=hw▸(z5o 32 z6 [] (by simp; omega)).1
 have l0:=(V w0 zE).1
 have hB:E6 b c d e f g/\c6 b c d e f g<=20000/\wd (w0::rest):=⟨J.1,J.2.1,V⟩
 have hB2:E6 b c d e f g/\c6 b c d e f g<=20000/\wd (w0::rest)/\K.length<=20000:=⟨J.1,J.2.1,V,Z⟩
 have hn:nth (w0::rest) 0 (zb .str)=w0:=rfl
 have hz:∀ {z:R8},(2:Int)=0->Lq N A' p' z:=λh=>by cases h
 unfold j7
 refine xc (xp (P:=λr=>r=(z6,K,i)) (by unfold strings_Cut; exact zi (Z) (zd hc)) ?_)
 rintro _ rfl
 refine xc (xp (P:=λr=>r=w0::rest) (by unfold ir strings_FieldsFunc; exact xc (zi (Z) (zd (zd hw)))) ?_)
 rintro _ rfl
 dsimp only
 rw[hn]
 refine zi ⟨λ_ _ _=>⟨⟨qh,by simp<;>omega⟩,qh,Z⟩,λ_ _=>⟨⟨qh,by simp<;>omega⟩,qh,Z⟩⟩ (wz (by simp[h0]<;>omega) (wz (by simp<;>omega) (zi (λ_=>⟨qh,by simp<;>omega⟩) (ze (λq => ?_) λ_ => ?_))))
 ·have q:w0=[99,104,101,99,107]:=by have:=(zP.1 q).2; simpa[xx]using this
  obtain⟨rfl,rfl,k⟩:=h3 (.inr (.inr q))
  exact oa (xc (xp (L5 _ K hB2 h k) λr hr=>oa (zd hr)))
 refine zi (λ_=>⟨qh,by simp<;>omega⟩) (ze (λq => ?_) λ_=>ze (λ_=>vD rfl (oa (zd hz))) λ_=>qo ⟨qh,by simp<;>omega⟩ (ze (λq => ?_) λ_=>qo ⟨qh,by simp<;>omega⟩ (ze (λq => ?_) λ_=>qo ⟨qh,by simp<;>omega⟩ (ze (λq => ?_) λ_=>qo ⟨qh,by simp<;>omega⟩ (ze (λq => ?_) λ_=>vD rfl (oa (zd hz)))))))
 ·have q:w0=[114,117,108,101]:=by have:=(zP.1 q).2; simpa[xx]using this
  obtain⟨rfl,rfl,k⟩:=h4 q
  exact oa (xc (xp (Nz _ K hB2 h k) λr hr=>oa (zd hr)))
 ·obtain⟨rfl,rfl⟩:=h1 (by simpa[xx]using q)
  exact oa (xc (xp (MG _ hB h) λr hr=>ze (λ_=>oa (zd hz)) λe=>oa (zd λ_=>hr (by simpa using e))))
 ·obtain⟨rfl,rfl,k⟩:=h3 (.inl (by simpa[xx]using q))
  exact oa (xc (xp (TF _ hB h k) λr hr=>ze (λ_=>oa (zd hz)) λe=>oa (zd λ_=>hr (by simpa using e))))
 ·obtain⟨rfl,k⟩:=X (by simpa[xx]using q)
  exact oa (xc (xp (Ny _ hB h) λr hr=>ze (λ_=>oa (zd hz)) λe=>oa (zd λ_=>by
   obtain⟨w,h3,h4⟩:=hr (by simpa using e)
   rw[k w (by simpa using h3)]
   exact h4)))
 ·obtain⟨rfl,rfl,k⟩:=h3 (.inr (.inl (by simpa[xx]using q)))
  exact oa (xc (xp (L6 _ hB h k) λr hr=>ze (λ_=>oa (zd hz)) λe=>oa (zd λ_=>hr (by simpa using e))))
end
open T PL
theorem zfo(gv:List It)(h:∀ i∈gv,(10:UInt8) ∉ i.HR):eT 10 (tx gv)=gv.map It.HR++[[]]:=by
 have key:∀ s r:zn,(10:UInt8) ∉ s->eT 10 (s++10::r)=s::eT 10 r:=by
  intro s
  induction s with
  | nil=>intro r _; show(if(10:UInt8)=10 then _ else _)=_; rw[if_pos rfl]
  | cons b s ih =>
   intro r hs
   have J:b≠10:=λe=>hs (e▸zE)
   show(if b=10 then _ else z4H b (eT 10 (s++10::r)))=_
   rw[if_neg J,ih r λk=>hs (R _ k)]
   rfl
 induction gv with
 | nil=>rfl
 | cons i l ih =>
  have e:tx (i::l)=i.HR++10::tx l:=by simp[tx]
  rw[e,key _ _ (h i zE),ih λj hj=>h j (R _ hj)]
  rfl
theorem It.zqD{N:zn->Prop}:∀ {i:It},i.ok N->(10:UInt8) ∉ i.HR:=λ{i} h=>by
 have key:∀ s:zn,cl s->(10:UInt8) ∉ s:=λs k m=>k _ m rfl
 refine key _ ?_
 cases i with
 | sw n b=>exact ym.2 ⟨ym.2 ⟨qh,Kh h⟩,by cases b<;>decide⟩
 | pg n w =>
  refine ym.2 ⟨ym.2 ⟨qh,Kh h.1⟩,?_⟩
  unfold CO
  split
  ·exact(qh)
  ·rename_i e; exact ym.2 ⟨qh,Kh (h.2.resolve_left e)⟩
 | ot k n t =>
  refine ym.2 ⟨ym.2 ⟨?_,Kh h.2.1⟩,h.2.2.2.1⟩
  have:∀ k∈kws,cl k:=qh
  exact this k h.1
section
variable {N:zn->Prop} {A:List zn} {p:List (zn×zn)} {u:Unit} {b:List Switch} {c:List Param} {d:List ct} {e:List Field} {f:List cf} {g:List Check}
theorem YR{k n t:zn}(hk:(32:UInt8) ∉ k/\k≠[])(hn:okN n)(ht:sps t):cd 32 [] (k++32::(n++t))=k::n::cd 32 [] t:=by
 rw[Ld k [] _ hk.1 hk.2,znF hn ht]; rfl
theorem zaT(i:It)(hi:i.ok N)(J:E6 b c d e f g/\c6 b c d e f g<=20000/\i.HR.length<=20000)(h:Rd N A p b c d e f g) :
  (j7 i.HR u b c d e f g).wp λr=>r.1=0->Lq N (A++i.sws) (p++i.pgs) r.2:=by
 cases i with
 | sw n q =>
  have hn:okN n:=hi
  have e1:(It.sw n q).HR=[115,119,105,116,99,104,32]++n++(bif q then[32,111,110]else[32,111,102,102]):=rfl
  have hs:sps (bif q then([32,111,110]:zn)else[32,111,102,102]):=.inr (by cases q<;>rfl)
  obtain⟨t',x,j,hc,ht,-⟩:=M9 (k:=[115,119,105,116,99,104,32]++n) (t:=bif q then[32,111,110]else[32,111,102,102]) (by simp[(VY hn).2]) hs
  rw[<- e1]at hc
  exact Ek _ [115,119,105,116,99,104] (n::cd 32 [] t') J h hc (by have:=YR (k:=[115,119,105,116,99,104]) (t:=t') (qh) hn ht; simpa using this) (qh) (λ_=>⟨rfl,by simp[It.pgs]⟩) (λq=>absurd q (qh)) (λq=>absurd q (qh)) (λq=>absurd q (qh))
 | pg n w =>
  have hn:okN n:=hi.1
  have hw:sps (CO w)/\(58:UInt8) ∉ CO w/\(w=[]/\cd 32 [] (CO w)=[]\/cd 32 [] (CO w)=[[119,104,101,110],w]):=by
   unfold CO
   split
   ·rename_i e; exact⟨.inl rfl,nofun,.inl ⟨e,rfl⟩⟩
   ·rename_i e
    have k:=hi.2.resolve_left e
    refine⟨.inr rfl,by simp[cat,(VY k).2],.inr ?_⟩
    show cd 32 [] (32::([119,104,101,110]++32::w))=_
    show cd 32 [] ([119,104,101,110]++32::w)=_
    rw[Ld _ [] _ (qh) (qh),z5n w [] (VY k).1 k.1]; rfl
  obtain⟨t',x,j,hc,ht,h58⟩:=M9 (k:=[112,97,103,101,32]++n) (t:=CO w) (by simp[(VY hn).2]) hw.1
  obtain rfl:=h58 hw.2.1
  change Uz (It.pg n w).HR [58]=_ at hc
  refine Ek _ [112,97,103,101] (n::cd 32 [] (CO w)) J h hc (by have:=YR (k:=[112,97,103,101]) (t:=CO w) (qh) hn ht; simpa using this) (qh) (λq=>absurd q (qh)) (λ_=>⟨by simp[It.sws],λv hv => ?_⟩) (λq=>absurd q (qh)) (λq=>absurd q (qh))
  show p++[(n,w)]=p++[(n,v)]
  rcases hw.2.2 with⟨rfl,k⟩ | k<;>rw[k]at hv<;>rcases hv with⟨h1,X⟩ | ⟨h1,X⟩
  ·rw[X]
  ·cases h1
  ·cases h1
  ·rw[X]; rfl
 | ot k n t =>
  obtain⟨hk,hn,hN,_,hs⟩:=hi
  have e1:(It.ot k n t).HR=k++n++t:=rfl
  have k58:(58:UInt8) ∉ k:=by have:∀ k∈kws,(58:UInt8) ∉ k:=qh; exact this k hk
  obtain⟨t',x,j,hc,ht,-⟩:=M9 (k:=k++n) (t:=t) (by simp[k58,(VY hn).2]) hs
  rw[<- e1]at hc
  have s0:A++(It.ot k n t).sws=A/\p++(It.ot k n t).pgs=p:=⟨zK _,zK _⟩
  have one:∀ k0:zn,k=k0++[32]->(32:UInt8) ∉ k0/\k0≠[]->vx k0 0≠35->k0≠[115,119,105,116,99,104]->k0≠[112,97,103,101]->k0≠[114,117,108,101]->(j7 (It.ot k n t).HR u b c d e f g).wp λr=>r.1=0->Lq N (A++(It.ot k n t).sws) (p++(It.ot k n t).pgs) r.2:=by
   rintro k0 rfl h1 X h3 h4 h5
   refine Ek _ k0 (n::cd 32 [] t') J h hc (by have:=YR (t:=t') h1 hn ht; simpa using this) X (λq=>absurd q h3) (λq=>absurd q h4) (λ_=>⟨s0.1,s0.2,hN⟩) (λq=>absurd q h5)
  have two:∀ s:zn,k=ruK s->(32:UInt8) ∉ s/\s≠[]->(j7 (It.ot k n t).HR u b c d e f g).wp λr=>r.1=0->Lq N (A++(It.ot k n t).sws) (p++(It.ot k n t).pgs) r.2:=by
   rintro s rfl h1
   refine Ek _ [114,117,108,101] (s::n::cd 32 [] t') J h hc ?_ (qh) (λq=>absurd q (qh)) (λq=>absurd q (qh)) (λq=>absurd q (qh)) (λ_=>⟨s0.1,s0.2,hN⟩)
   have e2:ruK s++n++t'=[114,117,108,101]++32::(s++32::(n++t')):=by simp[ruK,cat]
   rw[e2,Ld _ [] _ (qh) (qh),YR h1 hn ht]; rfl
  rcases zG.1 hk with q | q
  ·simp only[zI,List.not_mem_nil,or_false]at q
   rcases q with q | q | q
   ·exact one [112,97,114,97,109] q (qh) (qh) (qh) (qh) (qh)
   ·exact one [102,105,101,108,100] q (qh) (qh) (qh) (qh) (qh)
   ·exact one [99,104,101,99,107] q (qh) (qh) (qh) (qh) (qh)
  ·obtain⟨s,hs,rfl⟩:=List.mem_map.1 q
   exact two s rfl ((by decide:∀ s∈stg,(32:UInt8) ∉ s/\s≠[]) s hs)
theorem zfs(J:E6 b c d e f g)(h:Rd N A p b c d e f g):(j7 [] u b c d e f g).wp λr=>r.1=0->Lq N A p r.2:=by
 unfold j7
 refine xc (xp (P:=λr=>r=([],[],false)) (by unfold strings_Cut; exact zi (qh) (zd rfl)) ?_)
 rintro _ rfl
 refine xc (xp (P:=λr=>r=[]) (by unfold ir strings_FieldsFunc; exact xc (zi (qh) (zd (zd rfl)))) ?_)
 rintro _ rfl
 exact zi ⟨λ_ _ q=>by simp at q,λq=>by simp at q⟩ (vD rfl (oa (zd λ_=>h)))
end
def Ow(f f':Form):Prop:=f'.1.map (·.1)=f.1.map (·.1)/\f'.2.2.1.map Kk=f.2.2.1.map Kk/\∀ n,fm f' n->fm f n
theorem zay(N:zn->Prop)(gv:List It)(hi:∀ i∈gv,i.ok N)(u:List zn)(hu:u=gv.map It.HR++[[]])(h1:sX u<=16385)(X:∀ x∈u,x.length<=20000)(h3:u.length<=100000) :
  (bT u (u.length:Int) (0,(),(),[],[],[],[],[],[],[],[],[],[],[],[])).wp λz=>match z with | .inl (_,_,_,n,_,o,_,p,_,q,_,r,_,s)=>Rd N (gv.flatMap It.sws) (gv.flatMap It.pgs) p q r s o n | .inr z=>z.2.2.1=F0:=by
 unfold bT
 have B:u.length=gv.length+1:=by rw[hu]; simp
 refine cJ u (zb .str) (λ(m,_)=>m) (λx=>x.length<=20000) (λ_=>True) (λ(m,_,_,_,n,_,o,_,p,_,q,_,r,_,s)=>0<=m/\E6 p q r s o n/\2*c6 p q r s o n<=sX (u.take m.toNat)/\Rd N ((gv.take m.toNat).flatMap It.sws) ((gv.take m.toNat).flatMap It.pgs) p q r s o n) X ⟨rfl,Z,E60,qD _,rfl,rfl,nofun,nofun,nofun,nofun⟩ (λ⟨m,y,z,a,n,b,o,c,p,d,q,e,r,f,s⟩ x ⟨h0,h4,h5,h6⟩ U he _ hm => ?_) λ⟨m,y,z,a,n,b,o,c,p,d,q,e,r,f,s⟩ ⟨h0,h4,h5,h6⟩ hm _ => ?_
 ·have k6:=CH u m h0 hm
  have k7:=Eh u (m+1).toNat
  have he:nth u m (zb .str)=x:=he
  have hm:m<u.length:=hm
  rw[he]at k6
  have hw:q9 (m+1)=m+1:=qs (Z) (Z)
  have V:(j7 x () p q r s o n).wp λz=>z.1=0->Lq N ((gv.take (m+1).toNat).flatMap It.sws) ((gv.take (m+1).toNat).flatMap It.pgs) z.2:=by
   by_cases q1:m<gv.length
   ·have DE:x=(nth gv m (.sw [] true)).HR:=by
     rw[<- he,hu]
     unfold nth
     rw[zA,List.getElem?_append_left (by simp; omega),List.getElem?_map,zA,zH (Z)]
     rfl
    rw[cV gv m (.sw [] true) h0 q1,List.flatMap_append,List.flatMap_append,DE]
    have:=zaT (nth gv m (.sw [] true)) (hi _ (xj h0 q1)) ⟨h4,Z,by rw[<- DE]; exact U⟩ h6 (u:=())
    simpa using this
   ·have DE:x=[]:=by
     rw[<- he,hu]
     unfold nth
     rw[zA,List.getElem?_append_right (by simp; omega),show m.toNat-(gv.map It.HR).length=0 by simp; omega]
     rfl
    rw[zF (Z)]at h6 ⊢
    rw[DE]
    exact zfs h4 h6
  unfold bU
  refine vD (decide_eq_true hm) (qo ⟨h0,hm⟩ (oa ?_))
  rw[he]
  refine xc (xp (Ev (Sp.sp ⟨h4,Z,U⟩) V) λ⟨t,_,g,h,i,j,k,l⟩ ⟨z1,z2⟩ => ?_)
  dsimp only
  refine ze (λ_ => ?_) λe0 => ?_
  ·exact zc (zc (zc (zc (zc (zc (z8 (z8 (z8 (z8 (z8 (z8 (z8 (z8 (z8 (z8 (z8 (z8 (zd rfl))))))))))))))))))
  ·have e0:t=0:=by simpa using e0
   refine zc (zc (zc (zc (zc (zc (zc (zc (zc (zc (zc (zc (z8 (z8 (z8 (z8 (z8 (z8 (z8 (z8 (z8 (z8 (z8 (z8 (zd ?_))))))))))))))))))))))))
   rw[hw]
   refine⟨rfl,⟨Z,z1.1,?_,z2 e0⟩,trivial⟩
   have z3:=z1.2.1
   have z4:=z1.2.2
   dsimp only at z3 z4 ⊢
   by_cases q2:x.length=0
   ·have:=z4 q2; omega
   ·omega
 ·have hm:m=u.length:=hm
  rw[zF (Z)]at h6
  unfold bU
  refine wz (decide_eq_false (Z)) ?_
  exact zc (zc (zc (zc (zc (zc (zc (zc (zc (zc (zc (zc (z8 (z8 (z8 (z8 (z8 (z8 (z8 (z8 (z8 (z8 (z8 (z8 (zd h6))))))))))))))))))))))))
theorem zno(f:Form)(h:FW 8200 f):(mE f).wp λf'=>F9 f'/\(f'=F0\/Ow f f'):=by
 refine Ev (Sp.sp h) ?_
 unfold mE nY
 refine xc (xp (P:=λr=>r=[]\/Tx f r) (za h λb J=>ze (λ_=>zd (.inl rfl)) λe=>za (J (by simpa using e)) λc hc=>zd (.inr hc)) λr hr => ?_)
 refine xc (xp (P:=λz:Form×Int×Int=>z.1=F0\/Ow f z.1) ?_ λ⟨z,_,_⟩ hz=>zd hz)
 obtain⟨N,gv,hr,hi,hN,hA⟩:∃ (N:zn->Prop) (gv:List It),r=tx gv/\(∀ i∈gv,i.ok N)/\(∀ n,N n->fm f n)/\((gv=[]/\∀ n,¬ N n)\/(gv.flatMap It.sws=f.1.map (·.1)/\gv.flatMap It.pgs=f.2.2.1.map Kk)):=by
  rcases hr with rfl | ⟨gv,h1,X,h3⟩
  ·exact⟨λ_=>False,[],rfl,nofun,nofun,.inl ⟨rfl,λ_ h=>h⟩⟩
  ·exact⟨fm f,gv,h1,X,λ_ h=>h,.inr h3⟩
 unfold il oZ
 refine ze (λ_=>zd (.inl rfl)) λB => ?_
 have B:=ga B
 refine xc (xp (Ev (Sp.sp (t:=strings_Split r [10]) (Z)) (xp (P:=λz=>z=eT 10 r) (by unfold strings_Split; exact zi ⟨Z,rfl⟩ (zd rfl)) λ_ h=>h)) ?_)
 rintro u ⟨hu,EL⟩
 have EL:u=gv.map It.HR++[[]]:=by rw[EL,hr]; exact zfo gv λi k=>It.zqD (hi i k)
 have V:=zay N gv hi u EL (Z) (λx U=>by have:=hu.2.1 x U; omega) (Z)
 have c:=cz0
 refine⟨c,c,c,c,c,c,c,c,c,c,c,c,rfl,rfl,rfl,rfl,rfl,rfl,rfl,rfl,rfl,rfl,rfl,rfl,xc (xp (Ev (Sp.sp (t:=bT u (u.length:Int) (0,(),(),[],[],[],[],[],[],[],[],[],[],[],[])) ⟨rfl,Z,λx U=>by have:=hu.2.1 x U; omega,Z⟩) V) λz hz => ?_)⟩
 cases z with
 | inl z =>
  obtain⟨n,o,p,a,q,b,r,c,s,d,t,e,v,g⟩:=z
  obtain⟨⟨z1,z2⟩,z3⟩:=hz
  dsimp only[Sum.elim_inl]
  simp only[yg]
  refine z8 (z8 (z8 (z8 (z8 (z8 (za (z0S z1 z2).1 λj _=>ze (λ_=>zd (.inl rfl)) λ_=>z8 (z8 (z8 (z8 (z8 (z8 (zd ?_))))))))))))
  obtain⟨w1,w2,w3,w4,w5,w6⟩:=z3
  rcases hA with⟨rfl,k⟩ | ⟨k1,k2⟩
  ·left
   have nil:∀ {α:Type} {l:List α} {g:α->zn},(∀ x∈l,N (g x))->l=[]:=λ{α l g} h=>List.eq_nil_iff_forall_not_mem.2 λx U=>k _ (h x U)
   rw[List.map_eq_nil_iff.1 w1,List.map_eq_nil_iff.1 w2,nil w3,nil w4,nil w5,nil w6]
  ·refine .inr ⟨w1.trans k1,w2.trans k2,?_⟩
   rintro n (⟨x,U,rfl⟩ | ⟨x,U,rfl⟩ | ⟨x,U,rfl⟩ | ⟨x,U,rfl⟩)
   ·exact hN _ (w3 x U)
   ·exact hN _ (w4 x U)
   ·exact hN _ (w5 x U)
   ·exact hN _ (w6 x U)
 | inr z =>
  obtain⟨k,l,m,v,w,x,y,z,A,hl,C,D,κ',G,H,zC⟩:=z
  exact zd (.inl hz.2)
open T PL
def tg(l:List Term):Prop:=∀ t∈l,rg t.2.1
def tb:List Term->Nat
 | []=>0
 | t::l=>max (rl t.2.1) (tb l)
theorem Wd{l:List Term}{t:Term}(h:t∈l):rl t.2.1<=tb l:=by
 induction l with
 | nil=>cases h
 | cons a l ih =>
  unfold tb
  rcases zI.1 h with rfl | h
  ·omega
  ·have:=ih h; omega
theorem zfv(l:List Term)(t:Term):tb (l++[t])=max (tb l) (rl t.2.1):=by
 induction l with
 | nil=>simp[tb]
 | cons a l ih=>rw[List.cons_append,tb,tb,ih]; omega
theorem zfw(l:List Term)(t:Term)(h:tg l)(k:rg t.2.1):tg (l++[t]):=jl h k
theorem Bu(l:List Term)(h:tg l)(i:Int)(h0:0<=i)(h1:i<l.length):rg (nth l i (zb qk)).2.1/\rl (nth l i (zb qk)).2.1<=tb l:=⟨h _ (xj h0 h1),Wd (xj h0 h1)⟩
theorem znB(l:List Term)(h:tg l)(h1:1<=l.length):tg (je (e:=qk) 1 (l.length:Int) l)/\tb (je (e:=qk) 1 (l.length:Int) l)<=tb l/\(je (e:=qk) 1 (l.length:Int) l).length+1=l.length:=by
 have e:je (e:=qk) 1 (l.length:Int) l=l.tail:=by unfold je; simp
 rw[e]
 cases l with
 | nil=>simp at h1
 | cons a l=>exact⟨λt ht=>h t (R _ ht),by rw[tb]; simp; omega,qw⟩
theorem tg0:tg []/\tb []=0:=⟨nofun,rfl⟩
def cg(c:vM):Prop:=tg c.2.1/\rg c.2.2.1
def cb(c:vM):Nat:=max (tb c.2.1) (rl c.2.2.1)
theorem W7:rg (false,[],[],())/\rl (false,[],[],())=0:=⟨⟨vJ,vJ⟩,by simp[rl]⟩
theorem FE{p:Prop} (h:p:=by
 intros
 repeat' (with_reducible first
  | refine zd ?_
  | refine ze (λ_ => ?_) (λ_ => ?_)
  | refine z8 ?_
  | refine zc ?_
  | refine uz ?_ ?_
  | refine qo ?_ ?_
  | refine vS ?_ ?_
  | refine wJ ?_ ?_
  | refine zi ?_ ?_
  | refine vX (λ_ _ => ?_) (λ_ _ => ?_)
  | refine za ?_ (λ_ _ => ?_)
  | refine vE ?_ (λ_ _ => ?_)
  | refine xc ?_
  | dsimp only)
 all_goals grind [xe,jv,vZ,zu,jc,yg,zfv,zfw,tg0,cg,cb,W7,V4,List.length_append,List.length_singleton,EB,BE]):p:=h
set_option maxHeartbeats 4000000 in
instance (s:List Term×List Term×(Int×Bool×List Int×List Int×Unit)×(Int×Bool×List Int×List Int×Unit)×List Term×List Term):Sp (Vu s) (tg s.1/\tg s.2.1/\s.2.2.2.2.2=[]/\s.1.length+s.2.1.length<=1000000/\tb s.1+tb s.2.1<=10000000)
  (λr=>r.2.1=s.2.2.2.1/\tg r.2.2.2/\tb r.2.2.2<=tb s.1+tb s.2.1+3/\r.2.2.2.length<=s.1.length+s.2.1.length):=⟨λh=>by
 unfold Vu
 refine vY (λ(b,a,_,o,_,d)=>o=s.2.2.2.1/\tg b/\tg a/\tg d/\tb b<=tb s.1/\tb a<=tb s.2.1/\tb d<=tb s.1+tb s.2.1+3/\a.length+b.length+d.length<=s.1.length+s.2.1.length) (λ(b,a,_)=>a.length+b.length) (by grind [tg0]) λ⟨b,a,n,o,c,d⟩ hs => ?_
 have h1:=h.2.2.2
 clear h
 generalize s.2.2.2.1=q at *
 generalize tb s.1=h2 at *
 generalize tb s.2.1=zB at *
 generalize s.1.length=X' at *
 generalize s.2.1.length=Y' at *
 have ka:=znB a hs.2.2.1
 have kb:=znB b hs.2.1
 have na:=Bu a hs.2.2.1 0 (Z)
 have nb:=Bu b hs.2.1 0 (Z)
 unfold Vv
 dsimp only at *
 generalize je (e:=qk) 1 (a.length:Int) a=a' at *
 generalize je (e:=qk) 1 (b.length:Int) b=b' at *
 generalize nth a 0 (zb qk)=x at *
 generalize nth b 0 (zb qk)=y at *
 exact FE⟩
instance (a b:vM):Sp (Wj a b) (cg a/\cg b/\a.2.1.length+b.2.1.length<=1000000/\cb a+cb b<=10000000) (λr=>cg r/\cb r<=cb a+cb b+3/\r.2.1.length<=a.2.1.length+b.2.1.length):=⟨λh=>by unfold Wj oZ; exact FE⟩
instance (k:Lf.Rat) (l:List Term) (s:Int×(Int×Bool×List Int×List Int×Unit)×(Int×Bool×List Int×List Int×Unit)×List Term×List Term):Sp (ZN k l (l.length:Int) s) (s.1=0/\tg l/\rg k/\s.2.2.2.2=[]/\l.length<=1000000/\tb l+rl k<=10000000)
  (λr=>r.2.1=s.2.2.1/\tg r.2.2.2/\tb r.2.2.2<=tb l+rl k+2/\r.2.2.2.length<=l.length):=⟨λh=>by
 unfold ZN
 refine vY (λ(i,_,d,_,a)=>0<=i/\i<=l.length/\d=s.2.2.1/\tg a/\tb a<=tb l+rl k+2/\(a.length:Int)<=i) (λ(i,_)=>(l.length-i).toNat) (by grind [tg0]) λ⟨b,c,d,e,a⟩ hs => ?_
 have kb:=Bu l h.2.1 b hs.1
 unfold ZO
 dsimp only at *
 generalize nth l b (zb qk)=x at *
 exact FE⟩
instance (a:vM) (k:Lf.Rat):Sp (en a k) (cg a/\rg k/\a.2.1.length<=1000000/\cb a+rl k<=10000000) (λr=>cg r/\cb r<=cb a+rl k+2/\r.2.1.length<=a.2.1.length):=⟨λh=>by unfold en oZ; exact FE⟩
instance (k:Int) (a b:vM):Sp (ZP k a b) (cg a/\cg b/\a.2.1.length+b.2.1.length<=1000000/\cb a+cb b<=1000000) (λr=>cg r.1/\cb r.1<=cb a+cb b+10/\r.1.2.1.length<=a.2.1.length+b.2.1.length):=⟨λh=>by unfold ZP; exact FE⟩
def rs(l:List Lf.Rat):Prop:=l.length<=1000000000/\∀ x∈l,rg x/\rl x<=1700
theorem Eb{l:List Lf.Rat}(h:rs l)(i:Int)(h0:0<=i)(h1:i<l.length):rg (nth l i (zb zm))/\rl (nth l i (zb zm))<=1700:=h.2 _ (xj h0 h1)
instance (l:List Lf.Rat) (i:Int):Sp (ml l i) (rs l) (λr=>rg r/\rl r<=1700/\((∀ x∈l,rl x<=16)->rl r<=16)):=⟨λh=>by
 have:=Eb h i
 have X:(∀ x∈l,rl x<=16)->0<=i->i<l.length->rl (nth l i (zb zm))<=16:=λh h0 h1=>h _ (xj h0 h1)
 unfold ml
 exact FE⟩
def vg(v:wj):Prop:=v.1.length<=20000/\v.2.1.length<=20000/\rs v.2.2.1/\∀ x∈v.2.2.1,rl x<=16
instance (s:zn) (v:wj):Sp (Wm s v) (vg v) (λr=>cg r.1/\cb r.1<=16/\r.1.2.1.length<=1):=⟨λh=>by
 have h1:∀ (i:Int) (a:Lf.Rat),rg a->tg [(i,a,())]/\tb [(i,a,())]=rl a:=λi a h=>⟨λt ht=>I.1 ht▸h,by simp[tb]⟩
 unfold vg at h
 unfold Wm
 exact FE⟩
open T PL
instance (e:Expr) (v:wj):Sp (Yq e v) (EK e/\vg v) (λr=>cg r.1/\cb r.1<=10300/\r.1.2.1.length<=256):=⟨λh=>by
 obtain⟨⟨n,hn,he⟩,hv⟩:=h
 unfold Yq
 refine xp (P:=λr=>∀ n,EO n e->cg r.1/\cb r.1<=40*n/\r.1.2.1.length<=n) ?_ λr hr=>by have:=hr n he; exact⟨this.1,Z,Z⟩
 refine sZ (x:=(e,v)) (λ(e,v)=>(∃ n,n<=256/\EO n e)/\vg v) (λ(e,_)=>zU e) (λ(e,_) (r:vM×Int)=>∀ n,EO n e->cg r.1/\cb r.1<=40*n/\r.1.2.1.length<=n) ?_ ?_ ⟨⟨n,hn,he⟩,hv⟩
 ·intro g g' hg x
  unfold eo
  exact mono
 ·intro⟨e,v⟩ ⟨⟨n,hn,he⟩,hv⟩ g hg
  have z:cg (0,[],(false,[],[],()),())/\cb (0,[],(false,[],[],()),())=0:=⟨⟨nofun,W7.1⟩,by simp[cb,tb,W7.2]⟩
  have hq:∀ {n'},EO n' e->n'=n:=λh=>h.uniq he
  suffices (eo (λy0 y1=>g (y0,y1)) e v).wp λr=>cg r.1/\cb r.1<=40*n/\r.1.2.1.length<=n from xp this λr hr n' h=>by rw[hq h]; exact hr
  clear hq
  cases he with
  | num h1 X =>
   unfold eo
   simp only[Expr.kids,Expr.kind,Expr.num,Expr.name]
   exact vD rfl FE
  | nam h1 =>
   unfold eo
   simp only[Expr.kids,Expr.kind,Expr.num,Expr.name]
   exact wz rfl (vD rfl FE)
  | @neg m s i a h1 =>
   have ha:Sp (g (a,v)) True (λr=>cg r.1/\cb r.1<=40*i/\r.1.2.1.length<=i):=⟨λ_=>xp (hg (a,v) ⟨⟨i,Z,h1⟩,hv⟩ (by simp<;>omega)) λr hr=>hr i h1⟩
   unfold eo
   simp only[Expr.kids,Expr.kind,Expr.num,Expr.name]
   clear hg
   refine wz rfl (wz rfl (qo ⟨Z,qw⟩ ?_))
   rw[show nth [a] 0 (zb .expr)=a from rfl]
   refine za trivial λr hr=>ze (λ_=>zd ?_) λ_=>vD rfl ?_
   ·grind
   ·exact FE
  | @bin k m s i j a b h1 X h3 h4 =>
   have ha:Sp (g (a,v)) True (λr=>cg r.1/\cb r.1<=40*i/\r.1.2.1.length<=i):=⟨λ_=>xp (hg (a,v) ⟨⟨i,Z,h3⟩,hv⟩ (by simp<;>omega)) λr hr=>hr i h3⟩
   have J:Sp (g (b,v)) True (λr=>cg r.1/\cb r.1<=40*j/\r.1.2.1.length<=j):=⟨λ_=>xp (hg (b,v) ⟨⟨j,Z,h4⟩,hv⟩ (by simp<;>omega)) λr hr=>hr j h4⟩
   unfold eo
   simp only[Expr.kids,Expr.kind,Expr.num,Expr.name]
   clear hg
   refine wz (wa) (wz (wa) (qo ⟨Z,by simp<;>omega⟩ ?_))
   rw[show nth [a,b] 0 (zb .expr)=a from rfl,show nth [a,b] 1 (zb .expr)=b from rfl]
   refine za trivial λr hr=>ze (λ_=>zd ?_) λ_=>wz (wa) (qo ⟨Z,qw⟩ ?_)
   ·grind
   ·exact FE⟩
theorem c0:cg (0,[],(false,[],[],()),())/\cb (0,[],(false,[],[],()),())=0:=⟨⟨nofun,W7.1⟩,by simp[cb,tb,W7.2]⟩
instance (e:Expr) (v:wj):Sp (YV e v) (EW KK e/\vg v) (λr=>cg r.1/\cb r.1<=10300/\r.1.2.1.length<=256):=⟨λh=>by have:=c0; unfold YV; exact FE⟩
instance (x:cf) (v:wj):Sp (Q4 x v) (EW KK x.2.2.2.1/\EW KK x.2.2.2.2.1/\vg v) (λr=>cg r.1/\cb r.1<=20700/\r.1.2.1.length<=512/\(r.2=0->r.1.1=x.2.1)):=⟨λh=>by unfold Q4; exact FE⟩
open T PL
theorem sB{α:Type}(l:List α)(i:Int)(d:α):wB l (0+i.toNat) d=nth l i d:=by simp[wB,nth]
instance (a:List Lf.Rat):Sp (bH a) (a.length<=1000000000) (λr=>r=a):=⟨λh=>by
 unfold bH
 refine zi ?_ (zi ⟨rfl,rfl,rfl,Z⟩ (zi rfl (zd (qw))))
 rintro rfl r hr
 simpa[T.leads,vZ,zu]using hr⟩
instance (a:List Int):Sp (yi a) (a.length<=1000000000) (λr=>r=a):=⟨λh=>by
 unfold yi
 refine zi ?_ (zi ⟨rfl,rfl,rfl,Z⟩ (zi rfl (zd (qw))))
 rintro rfl r hr
 simpa[T.leads,vZ,zu]using hr⟩
instance (a:List zn):Sp (wS a) (a.length<=1000000000) (λr=>r=a):=⟨λh=>by
 unfold wS
 refine zi ?_ (zi ⟨rfl,rfl,rfl,Z⟩ (zi rfl (zd (qw))))
 rintro rfl r hr
 simpa[T.leads,vZ,zu]using hr⟩
instance (a:List Lf.Rat):Sp (ua a) (a.length<=1000000000) (λr=>r=a):=⟨λh=>by
 unfold ua
 refine zi ?_ (zi ⟨rfl,rfl,rfl,Z⟩ (uz (Z) (zd rfl)))
 rintro rfl r hr
 simpa[T.leads,vZ,zu]using hr⟩
instance (a:List Int):Sp (ub a) (a.length<=1000000000) (λr=>r=a):=⟨λh=>by
 unfold ub
 refine zi ?_ (zi ⟨rfl,rfl,rfl,Z⟩ (uz (Z) (zd rfl)))
 rintro rfl r hr
 simpa[T.leads,vZ,zu]using hr⟩
instance (a:List Bool):Sp (vQ a) (a.length<=1000000000) (λr=>r=a):=⟨λh=>by
 unfold vQ
 refine zi ?_ (zi ⟨rfl,rfl,rfl,Z⟩ (uz (Z) (zd rfl)))
 rintro rfl r hr
 simpa[T.leads,vZ,zu]using hr⟩
instance (a:List wq):Sp (uG a) (a.length<=1000000000) (λr=>r=a):=⟨λh=>by
 unfold uG
 refine zi ?_ (zi ⟨rfl,rfl,rfl,Z⟩ (uz (Z) (zd rfl)))
 rintro rfl r hr
 simpa[T.leads,vZ,zu]using hr⟩
instance (a:List zn):Sp (wT a) (a.length<=1000000000) (λr=>r=a):=⟨λh=>by
 unfold wT
 refine zi ?_ (zi ⟨rfl,rfl,rfl,Z⟩ (uz (Z) (zd rfl)))
 rintro rfl r hr
 simpa[T.leads,vZ,zu]using hr⟩
instance (a:List Rat) (c:Rat->T Bool) (p:Rat->Prop) (P:Rat->Bool->Prop) [∀ x,Sp (c x) (p x) (P x)]:Sp (y6 a c) (a.length<=1000000000000/\∀ x∈a,p x) (BE a P (zb zm)):=⟨ixq⟩
instance (a:List Rat) (c:Rat->T Bool) (p:Rat->Prop) (P:Rat->Bool->Prop) [∀ x,Sp (c x) (p x) (P x)]:Sp (vz a c) (a.length<=1000000000000/\∀ x∈a,p x) (EB a P):=⟨λh=>cnq (Sp.sp h)⟩
instance (a:List Term) (c:Term->T Bool) (p:Term->Prop) (P:Term->Bool->Prop) [∀ x,Sp (c x) (p x) (P x)]:Sp (kC a c) (a.length<=1000000000000/\∀ x∈a,p x) (BE a P (zb qk)):=⟨ixq⟩
instance (a:List Term) (c:Term->T Bool) (p:Term->Prop) (P:Term->Bool->Prop) [∀ x,Sp (c x) (p x) (P x)]:Sp (uf a c) (a.length<=1000000000000/\∀ x∈a,p x) (EB a P):=⟨λh=>cnq (Sp.sp h)⟩
instance (a:List vM) (c:vM->T Bool) (p:vM->Prop) (P:vM->Bool->Prop) [∀ x,Sp (c x) (p x) (P x)]:Sp (bW a c) (a.length<=1000000000000/\∀ x∈a,p x) (BE a P (zb zq)):=⟨ixq⟩
instance (a:List vM) (c:vM->T Bool) (p:vM->Prop) (P:vM->Bool->Prop) [∀ x,Sp (c x) (p x) (P x)]:Sp (gn a c) (a.length<=1000000000000/\∀ x∈a,p x) (EB a P):=⟨λh=>cnq (Sp.sp h)⟩
instance (a:List Field) (c:Field->T Bool) (p:Field->Prop) (P:Field->Bool->Prop) [∀ x,Sp (c x) (p x) (P x)]:Sp (gE a c) (a.length<=1000000000000/\∀ x∈a,p x) (BE a P (zb qq)):=⟨ixq⟩
instance (a:List wq) (c:wq->T Bool) (p:wq->Prop) (P:wq->Bool->Prop) [∀ x,Sp (c x) (p x) (P x)]:Sp (yz a c) (a.length<=1000000000000/\∀ x∈a,p x) (BE a P (zb b8)):=⟨ixq⟩
instance (a:List wq) (c:wq->T Bool) (p:wq->Prop) (P:wq->Bool->Prop) [∀ x,Sp (c x) (p x) (P x)]:Sp (uD a c) (a.length<=1000000000000/\∀ x∈a,p x) (EB a P):=⟨λh=>cnq (Sp.sp h)⟩
instance (l:List Field) (s:Int×List zn):Sp (s9 l (l.length:Int) s) (s.1=0/\l.length<=8200/\(∀ x∈l,x.1.length<=KK)/\ss s.2/\s.2.length<=100000) (λr=>ss r/\r.length<=s.2.length+l.length):=⟨λh=>by
 unfold s9 sa
 exact rY l (zb qq) (λ(i,_)=>i) _ (λ_=>True) (λ(i,c)=>0<=i/\i<=l.length/\ss c/\(c.length:Int)<=s.2.length+i) h.2.2.1⟩
def ck(c:vM):Prop:=cg c/\cb c<=20700/\c.2.1.length<=512
def Uy(l:List vM):Prop:=l.length<=1000/\∀ c∈l,ck c
def io(n:Int)(l:List Int):Prop:=∀ i∈l,0<=i/\i<n
theorem De(l:List vM)(c:vM)(h:Uy l)(k:ck c)(B:l.length<=999):Uy (l++[c]):=⟨by simp; omega,jl h.2 k⟩
theorem DJ(n:Int)(l:List Int)(i:Int)(h:io n l)(h0:0<=i)(h1:i<n):io n (l++[i]):=jl h ⟨h0,h1⟩
theorem zdV(n:Int)(l:List Int)(h:io n l)(i:Int)(h0:0<=i)(h1:i<l.length):0<=nth l i (zb (.int .i64))/\nth l i (zb (.int .i64))<n:=h _ (xj h0 h1)
theorem V3:Uy []/\∀ n,io n []:=⟨⟨qw,nofun⟩,λ_=>nofun⟩
theorem goe{p:Prop} (h:p:=by
 intros
 repeat' (with_reducible first
  | refine zd ?_
  | refine ze (λ_ => ?_) (λ_ => ?_)
  | refine z8 ?_
  | refine zc ?_
  | refine uz ?_ ?_
  | refine qo ?_ ?_
  | refine vS ?_ ?_
  | refine wJ ?_ ?_
  | refine zi ?_ ?_
  | refine vX (λ_ _ => ?_) (λ_ _ => ?_)
  | refine za ?_ (λ_ _ => ?_)
  | refine vE ?_ (λ_ _ => ?_)
  | refine xc ?_
  | dsimp only)
 all_goals grind [xe,j6,jv,vZ,zu,jc,yg,List.length_append,List.length_singleton,De,DJ,V3,ck,V4,EB,BE]):p:=h
instance (x:Lf.Rat):Sp (cA x) (rg x/\rl x<=1700) (λr=>r=false->rl x<=16):=⟨λh=>by have:nm x↔norm x=x:=Iff.rfl; unfold cA; exact goe⟩
instance (x:Switch) (s:zn):Sp (eA x s) True (λ_=>True):=⟨λ_=>by unfold eA; exact goe⟩
instance (f:Form) (l:List Bool) (s:zn):Sp (Wt f l s) (f.1.length<=8200/\l.length=f.1.length) (λ_=>True):=⟨λh=>by unfold Wt; exact goe⟩
instance (x:Term):Sp (bn x) (rg x.2.1/\rl x.2.1<=50000) (λ_=>True):=⟨λh=>by unfold bn; exact goe⟩
instance (c:vM):Sp (Q3 c) (ck c) (λ_=>True):=⟨λh=>by
 have h1:∀ t∈c.2.1,rg t.2.1/\rl t.2.1<=50000:=λt ht=>⟨h.1.1 t ht,by have:=Wd ht; have:=h.2.1; unfold cb at this; omega⟩
 have X:=h.1.2
 have h3:rl c.2.2.1<=50000:=by have:=h.2.1; unfold cb at this; omega
 have h4:=h.2.2
 clear h
 unfold Q3
 exact goe⟩
instance (f:Form):Sp (tA f) (FV f) (λr=>ss r/\r.length<=8200):=⟨λh=>by
 obtain⟨h1,_,_,h4⟩:=FV.fe h
 unfold tA oZ
 exact FF⟩
instance (l:List Param) (s:Int×(List Lf.Rat×Unit)×(List zn×List Lf.Rat×Unit)×List zn×List zn×List zn):Sp (Xx l (l.length:Int) s) (s.1=0/\l.length<=8200/\s.2.2.2.2.2=[]) (λr=>r.2.1=s.2.2.1/\r.2.2.2.2.length<=8200):=⟨λh=>by
 unfold Xx Xy
 refine vY (λ(i,_,d,_,_,c)=>0<=i/\i<=l.length/\d=s.2.2.1/\(c.length:Int)<=i) (λ(i,_)=>(l.length-i).toNat) (wa) ?_
 exact goe⟩
instance (f:Form) (l:List Lf.Rat):Sp (s7 f l) (FV f/\rs l/\∀ x∈l,rl x<=16) (λr=>vg r):=⟨λh=>by
 obtain⟨h1,_⟩:=FV.fe h.1
 have X:l.length<=1000000000:=h.2.1.1
 unfold s7 vg
 exact goe⟩
open T PL
def St(f:Form):Prop:=∃ n,(cx f).run=some (0,n)
def rnQ(f:Form)(s:zn):Prop:=∃ x∈f.2.2.2.2.1,x.1=s
def EJ(f:Form)(v:wj)(z:Int)(d:wj)(a:List vM)(b:List Int):Prop:=0<=z/\z<=64/\d=v/\Uy a/\io f.2.2.2.2.1.length b/\a.length=b.length/\(a.length:Int)<=z
theorem goE{p:Prop} (h:p:=by
 intros
 repeat' (with_reducible first
  | refine zd ?_
  | refine ze (λ_ => ?_) (λ_ => ?_)
  | refine z8 ?_
  | refine zc ?_
  | refine uz ?_ ?_
  | refine qo ?_ ?_
  | refine vS ?_ ?_
  | refine wJ ?_ ?_
  | refine zi ?_ ?_
  | refine vX (λ_ _ => ?_) (λ_ _ => ?_)
  | refine za ?_ (λ_ _ => ?_)
  | refine vE ?_ (λ_ _ => ?_)
  | refine xc ?_
  | dsimp only)
 all_goals grind [xe,j6,jv,vZ,zu,jc,yg,List.length_append,List.length_singleton,De,DJ,V3,ck,V4,EB,BE,EJ]):p:=h
instance (o:List Bool) (f:Form) (s:Int×Unit×Unit×wj×List vM×List Int):Sp (rZ o f f.2.2.2.2.1 (f.2.2.2.2.1.length:Int) s) (s.1=0/\FV f/\f.2.2.2.2.1.length<=64/\o.length=f.1.length/\vg s.2.2.2.1/\s.2.2.2.2=([],[]))
  (λr=>match r with | .inl z=>z.2.2.1=s.2.2.2.1/\Uy z.2.2.2.1/\io f.2.2.2.2.1.length z.2.2.2.2/\z.2.2.2.1.length=z.2.2.2.2.length/\z.2.2.2.1.length<=64 | .inr z=>z.2.1≠0/\rnQ f z.1):=⟨λh=>by
 have h1:=h.2.1.1.1.1
 have X:∀ x∈f.2.2.2.2.1,(EW KK x.2.2.2.1/\EW KK x.2.2.2.2.1)/\rnQ f x.1:=λx U=>⟨(h.2.1.1.2.2.2.2.1.2 x U).2.2,x,U,rfl⟩
 obtain⟨h3,_,h4,h5,h6,h7⟩:=h
 unfold rZ
 refine cJ f.2.2.2.2.1 (zb xl) (λ(i,_)=>i) _ (λ_=>True) (λ(i,_,_,d,a,b)=>EJ f s.2.2.2.1 i d a b) X ⟨h3,by grind [EJ,V3]⟩ (λ⟨c,l,m,d,a,b⟩ x hj U he h0 B => ?_) λ⟨c,l,m,d,a,b⟩ hj he _ => ?_
 ·have hr:=he▸U
  dsimp only at *
  generalize s.2.2.2.1=v at *
  clear X he U h7 h3
  unfold iP
  exact goE
 ·clear X
  unfold iP
  exact goE⟩
instance (f:Form) (u v:Unit) (e:wj) (a:List vM) (b:List Int):Sp (s6 f (a.length:Int) (0,u,v,e,a,b)) (Uy a/\io f.2.2.2.2.1.length b/\a.length=b.length/\a.length<=64)
  (λr=>match r with | .inl z=>z.2.2.2=(a,b) | .inr z=>z.2.1≠0/\rnQ f z.1):=⟨λh=>by
 obtain⟨h1,X,h3,h4⟩:=h
 unfold s6
 refine cJ a (zb zq) (λ(i,_)=>i) _ (λ_=>True) (λ(i,_,_,_,a',b')=>0<=i/\i<=64/\a'=a/\b'=b) h1.2 ⟨rfl,Z,Z,rfl,rfl⟩ (λ⟨c,l,m,d,a',b'⟩ x ⟨k0,k1,k2,k3⟩ U he h0 B => ?_) λ⟨c,l,m,d,a',b'⟩ ⟨k0,k1,k2,k3⟩ he _ => ?_
 ·subst k2 k3
  have hr:=he▸U
  have hi:=zdV _ _ X c h0 (by dsimp only at *; omega)
  have hm:rnQ f (nth f.2.2.2.2.1 (nth b' c (zb (.int .i64))) (zb xl)).1:=⟨_,xj hi.1 hi.2,rfl⟩
  dsimp only at *
  unfold iQ
  simp only[sB]
  clear h1 X he U
  exact goE
 ·subst k2 k3
  clear h1 X
  unfold iQ
  simp only[sB]
  exact goE⟩
instance (f:Form) (p:List Lf.Rat) (o:List Bool):Sp (nH f p o) (FW 8200 f/\rs p/\o.length<=1000000000)
  (λr=>Uy r.2.2.2.1/\io f.2.2.2.2.1.length r.2.2.2.2/\r.2.2.2.1.length=r.2.2.2.2.length/\r.2.2.2.1.length<=64/\(r.2.2.1=0->FV f/\f.2.2.2.1.length<=64/\f.2.2.2.2.1.length<=64/\p.length=f.2.1.length/\o.length=f.1.length/\St f)/\(St f->r.2.1=[]\/rnQ f r.2.1)):=⟨λh=>by
 have h1:p.length<=1000000000/\∀ x∈p,rg x/\rl x<=1700:=h.2.1
 have X:=V3
 obtain⟨⟨g,i⟩,hS,hp⟩:=T.fK.1 (Sp.sp (t:=cx f) h.1)
 have s1:g=0->St f:=λe=>⟨i,by rw[hS,e]⟩
 have s2:St f->g=0:=λ⟨n,e⟩=>by rw[hS]at e; cases e; rfl
 generalize St f=S at *
 unfold nH oZ
 refine xc (gI hS ?_)
 clear hS
 exact goE⟩
end Go.AM.Lf
namespace Go.AM.PL
namespace G
def jn(f:Int->Int)(a b:Int):Int->Int:=λu=>if f u=max (f a) (f b)then min (f a) (f b)else f u
def Ym(f:Int->Int)(a:Int):List Int->(Int->Int)×Bool
 | []=>(f,true)
 | b::r=>((Ym (jn f a b) a r).1,decide (f a≠f b)&&(Ym (jn f a b) a r).2)
def OB(f:Int->Int):List Int->(Int->Int)×Bool
 | []=>(f,true)
 | a::r=>Ym f a r
def UN(f:Int->Int)(i:Int):List (List Int)->Int
 | [] => -1
 | c::r=>if(OB f c).2=true then UN (OB f c).1 (i+1) r else i
theorem zj5(f:Int->Int)(a b:Int):jn f a b a=jn f a b b:=by unfold jn; grind
theorem OD{f:Int->Int}{u w:Int}(a b:Int)(h:f u=f w):jn f a b u=jn f a b w:=by unfold jn; rw[h]
theorem Gw:∀ (r:List Int) (f:Int->Int) (a u w:Int),f u=f w->(Ym f a r).1 u=(Ym f a r).1 w
 | [],_,_,_,_,h=>h
 | b::r,f,a,u,w,h=>Gw r (jn f a b) a u w (OD a b h)
theorem z2K(c:List Int)(f:Int->Int){u w:Int}(h:f u=f w):(OB f c).1 u=(OB f c).1 w:=by
 cases c with
 | nil=>exact h
 | cons a r=>exact Gw r f a u w h
theorem OC:∀ (r:List Int) (f:Int->Int) (a b:Int),b∈r->(Ym f a r).1 b=(Ym f a r).1 a
 | c::r,f,a,b,h=>by
  rcases zI.1 h with rfl | h
  ·exact Gw r _ a b a (zj5 f a b).symm
  ·exact OC r (jn f a c) a b h
theorem z8n(c:List Int)(f:Int->Int){u w:Int}(hu:u∈c)(hw:w∈c):(OB f c).1 u=(OB f c).1 w:=by
 cases c with
 | nil=>cases hu
 | cons a r =>
  have key:∀ b∈a::r,(Ym f a r).1 b=(Ym f a r).1 a:=λb h=>by
   rcases zI.1 h with rfl | h
   ·rfl
   ·exact OC r f a b h
  exact(key u hu).trans (key w hw).symm
theorem K7:∀ (r:List Int) (f:Int->Int) (a:Int),(Ym f a r).2=true->(∀ b∈r,f a≠f b)/\r.Pairwise λb c=>f b≠f c
 | [],_,_,_=>⟨λb h=>(by cases h),.nil⟩
 | b::r,f,a,h=>by
  unfold Ym at h
  simp only[zR,decide_eq_true_eq]at h
  obtain⟨h1,X⟩:=K7 r (jn f a b) a h.2
  have J:∀ c∈r,f a≠f c/\f b≠f c:=λc hc=>by
   have:=h1 c hc
   unfold jn at this
   grind
  refine⟨λc hc => ?_,.cons (λc hc=>(J c hc).2) (X.imp_of_mem λ{c d} hc V g e=>g (OD a b e))⟩
  rcases zI.1 hc with rfl | hc
  ·exact h.1
  ·exact(J c hc).1
theorem TG{c:List Int}{f:Int->Int}(h:(OB f c).2=true):c.Pairwise λb d=>f b≠f d:=by
 cases c with
 | nil=>exact .nil
 | cons a r=>exact .cons (K7 r f a h).1 (K7 r f a h).2
def z0M(rk:Int->Nat)(cs:List (List Int))(outs:List Int):Prop:=∀ i (h:i<cs.length) (h':i<outs.length),outs[i]∈cs[i]->∀ t∈cs[i],t≠outs[i]->rk t<rk outs[i]
theorem znr:∀ (cs:List (List Int)) (outs:List Int) (f:Int->Int) (i:Int) (rk0:Int->Nat) (hl:Nat) (V3:List (List Int)) (Zw:List Int),0<=i->UN f i cs = -1->V3.length=Zw.length->(∀ v,rk0 v<=hl) ->
  (∀ c∈V3,∀ u∈c,∀ w∈c,f u=f w)->z0M rk0 V3 Zw->∃ rk:Int->Nat,∃ B',(∀ v,rk v<=B')/\z0M rk (V3++cs) (Zw++outs)
 | [],outs,f,i,rk0,hl,V3,Zw,_,_,B,hB,_,hA=>⟨rk0,hl,hB,λj h h'=>by
   simp only[zK]at h ⊢
   have e:(Zw++outs)[j]'h'=Zw[j]'(B▸h):=zM _
   rw[e]
   exact hA j h (B▸h)⟩
 | c::cs,[],f,i,rk0,hl,V3,Zw,_,_,B,hB,_,hA=>⟨rk0,hl,hB,λj h h'=>by
   simp only[zK]at h' ⊢
   have e:(V3++c::cs)[j]'h=V3[j]'(B▸h'):=zM _
   rw[e]
   exact hA j (B▸h') h'⟩
 | c::cs,o::outs,f,i,rk0,hl,V3,Zw,hi,hf,B,hB,hc,hA=>by
  unfold UN at hf
  split at hf
  ·rename_i hk
   have hap:=TG hk
   let rk:Int->Nat:=λu=>rk0 u+if f u=f o then hl+1 else 0
   have hrk:z0M rk (V3++[c]) (Zw++[o]):=λj h h'=>by
    by_cases hj:j<V3.length
    ·have e1:(V3++[c])[j]'h=V3[j]:=zM hj
     have e2:(Zw++[o])[j]'h'=Zw[j]'(B▸hj):=zM (B▸hj)
     rw[e1,e2]
     intro hm t ht ku
     have h1:=hA j hj (B▸hj) hm t ht ku
     have X:=hc _ (zN hj) t ht _ hm
     show rk0 t+(if f t=f o then hl+1 else 0)<rk0 _+(if f _=f o then hl+1 else 0)
     rw[X]; omega
    ·have Oq:j=V3.length:=by simp at h; omega
     subst Oq
     have e1:(V3++[c])[V3.length]'h=c:=qw
     have e2:(Zw++[o])[V3.length]'h'=o:=by simp[B]
     rw[e1,e2]
     intro hm t ht ku
     have hno:f t≠f o:=by
      obtain⟨p,hp,rfl⟩:=zY ht
      obtain⟨q,hq,rfl⟩:=zY hm
      rcases Nat.lt_trichotomy p q with h3 | h3 | h3
      ·exact qA.1 hap p q hp hq h3
      ·subst h3; exact absurd rfl ku
      ·exact λe=>qA.1 hap q p hq hp h3 e.symm
     show rk0 t+(if f t=f o then hl+1 else 0)<rk0 o+(if f o=f o then hl+1 else 0)
     rw[if_neg hno,if_pos rfl]
     have:=hB t
     omega
   have:=znr cs outs (OB f c).1 (i+1) rk (hl+(hl+1)) (V3++[c]) (Zw++[o]) (Z) hf (by simp[B]) (λv=>by
     show rk0 v+(if f v=f o then hl+1 else 0)<=_
     have:=hB v
     split<;>omega) (λd V u hu w hw=>by
     rcases zG.1 V with V | V
     ·exact z2K c f (hc d V u hu w hw)
     ·rw[I.1 V]at hu hw; exact z8n c f hu hw) hrk
   simpa using this
  ·omega
end G
namespace G
structure RL(r:List Int)(f:Int->Int):Prop where
 a:∀ (v:Nat) (h:v<r.length),0<=r[v]/\r[v]<=v
 b:∀ (v:Nat) (h:v<r.length),f r[v]=f v
 c:∀ (v:Nat) (h:v<r.length),r[v]=v->f v=v
theorem RL.at{r:List Int}{f:Int->Int}(H:RL r f){v:Nat}(h:v<r.length):∃ w:Nat,r[v]=(w:Int)/\w<=v/\w<r.length/\f w=f v:=by
 have h1:=H.a v h
 have X:=H.b v h
 refine⟨r[v].toNat,Z,Z,Z,?_⟩
 rw[Int.toNat_of_nonneg h1.1]; exact X
theorem RL.zhX{r:List Int}{f:Int->Int}(H:RL r f){v w:Nat}(h:v<r.length)(hw:r[v]=(w:Int))(hwl:w<r.length):RL (r.set v r[w]) f:=by
 have h1:=H.a v h
 have X:=H.a w hwl
 have h3:=H.b v h
 have h4:=H.b w hwl
 refine⟨λu hu => ?_,λu hu => ?_,λu hu => ?_⟩<;>simp only[List.length_set]at hu<;>rw[qE]
 ·split
  ·omega
  ·exact H.a u hu
 ·split
  ·rename_i e; subst e; rw[h4,<- hw,h3]
  ·exact H.b u hu
 ·split
  ·rename_i e
   subst e
   intro e
   exact H.c v h (Z)
  ·exact H.c u hu
theorem RL.join{r:List Int}{f:Int->Int}(H:RL r f){v w a b:Nat}(ha:f v=(a:Int))(J:f w=(b:Int))(Yh:a<r.length)(hbl:b<r.length)(fa:f a=a)(fb:f b=b) :
  RL (r.set (max a b) ((min a b:Nat):Int)) (jn f v w):=by
 have key:∀ u:Int,jn f v w u=if f u=((max a b:Nat):Int)then((min a b:Nat):Int)else f u:=λu=>by unfold jn; rw[ha,J]; split<;>split<;>omega
 have fm:f ((min a b:Nat):Int)=((min a b:Nat):Int):=by rcases Nat.le_total a b with h | h<;>simp[Nat.min_eq_left,Nat.min_eq_right,h,fa,fb]
 have fM:f ((max a b:Nat):Int)=((max a b:Nat):Int):=by rcases Nat.le_total a b with h | h<;>simp[Nat.max_eq_left,Nat.max_eq_right,h,fa,fb]
 refine⟨λu hu => ?_,λu hu => ?_,λu hu => ?_⟩<;>simp only[List.length_set]at hu<;>rw[qE]
 ·split
  ·omega
  ·exact H.a u hu
 ·rw[key,key]
  split
  ·rename_i e; subst e; rw[fm,fM,if_pos rfl]; split<;>rfl
  ·rw[H.b u hu]
 ·rw[key]
  split
  ·rename_i e; subst e; intro e; rw[fM,if_pos rfl]; exact e
  ·rename_i e
   intro h
   rw[H.c u hu h,if_neg (Z)]
end G
end Go.AM.PL
namespace Go.AM.Lf
open T PL
def VC(n:Int)(c:vM):Prop:=0<=c.1/\c.1<=4/\∀ t∈c.2.1,0<=t.1/\t.1<n
def vs(c:vM):List Int:=c.2.1.map (·.1)
theorem Fg(c:vM):rl c.2.2.1<=cb c:=by unfold cb; omega
theorem gog{p:Prop} (h:p:=by
 intros
 repeat' (with_reducible first
  | refine zd ?_
  | refine ze (λ_ => ?_) (λ_ => ?_)
  | refine z8 ?_
  | refine zc ?_
  | refine uz ?_ ?_
  | refine qo ?_ ?_
  | refine vS ?_ ?_
  | refine wJ ?_ ?_
  | refine zi ?_ ?_
  | refine vX (λ_ _ => ?_) (λ_ _ => ?_)
  | refine za ?_ (λ_ _ => ?_)
  | refine vE ?_ (λ_ _ => ?_)
  | refine xc ?_
  | dsimp only)
 all_goals grind [xe,j6,dS,jv,vZ,zu,jc,yg,List.length_set,V4,iA,V9]):p:=h
instance (n:Int) (c:vM) (s:Int×Int):Sp (Za n c.2.1 (c.2.1.length:Int) s) (s=(0,0)/\n<=1000000/\cg c/\cb c<=1000000/\c.2.1.length<=1000000) (λr=>match r with | .inl _=>∀ t∈c.2.1,0<=t.1/\t.1<n | .inr b=>b=false):=⟨λh=>by
 unfold Za
 refine cJ c.2.1 (zb qk) (λ(_,i)=>i) (λx=>rg x.2.1/\rl x.2.1<=1000000) (λx=>0<=x.1/\x.1<n) (λ(g,i)=>0<=g/\0<=i) (λx U=>⟨h.2.2.1.1 x U,by have:=Wd U; have:=h.2.2.2.1; unfold cb at this; omega⟩) (wa) (λ⟨g,i⟩ x hj U he h0 B => ?_) λ⟨g,i⟩ hj he hp => ?_
 ·dsimp only at *
  unfold r8
  dsimp only
  rw[he]
  clear he
  exact gog
 ·dsimp only at *
  unfold r8
  clear h
  exact gog⟩
instance (c:vM) (n:Int):Sp (dB c n) (n<=1000000/\cg c/\cb c<=1000000/\c.2.1.length<=1000000) (λr=>r=true->VC n c):=⟨λh=>by
 have h1:rg c.2.2.1/\rl c.2.2.1<=1000000:=⟨h.2.1.2,by have:=Fg c; omega⟩
 have X:0<=c.1->c.1<=4->(∀ t∈c.2.1,0<=t.1/\t.1<n)->VC n c:=λa b d=>⟨a,b,d⟩
 unfold dB
 exact gog⟩
theorem S8{f:Int->Int}(n:Nat)(v:Int)(r:List Int)(h:G.RL r f/\0<=v/\v<n/\r.length=n):(yX (0,n) v r).wp λ(z:Int×List Int)=>G.RL z.2 f/\z.2.length=n/\z.1=f v/\0<=z.1/\z.1<n/\f z.1=z.1:=by
 unfold yX ma
 refine z8 (z8 (xc ?_))
 refine xp (P:=λ(z:Int×List Int)=>G.RL z.2 f/\z.2.length=n/\z.1=f v/\0<=z.1/\z.1<n/\f z.1=z.1) ?_ λz hz=>z8 (zd hz)
 refine vY (λ(b,c,a)=>b=(0,n)/\G.RL a f/\0<=c/\c<n/\a.length=n/\f c=f v) (λ(_,c,_)=>c.toNat) ⟨rfl,h.1,h.2.1,h.2.2.1,h.2.2.2,rfl⟩ λ⟨b,c,a⟩ ⟨h1,X,h3,h4,h5,h6⟩ => ?_
 subst h1
 obtain⟨k,rfl⟩:=Y h3
 have hk:k<a.length:=Z
 obtain⟨w,hw,hwk,hwl,hfw⟩:=X.at hk
 have e1:wB a (0+qN (k:Int)) (zb (.int .i64))=a[k]:=by simp[wB,hk]
 have e2:wB a (0+qN (w:Int)) (zb (.int .i64))=a[w]:=by simp[wB,hwl]
 unfold da
 dsimp only
 rw[e1,hw,e2]
 refine zi ⟨Z,Z⟩ (zi ⟨rfl,by simp; omega⟩ (ze (λhn => ?_) λhn => ?_))
 ·have ku:w≠k:=by rintro rfl; simp at hn
  obtain⟨x,U,hxw,Lt,hfx⟩:=X.at hwl
  have e3:wB (a.set (0+qN (k:Int)) a[w]) (0+qN (k:Int)) (zb (.int .i64))=a[w]:=by simp[wB,hk]
  rw[e3]
  have hs:(0+qN (k:Int))=k:=Z
  rw[hs]
  refine zi ⟨Z,Z⟩ (zi ⟨rfl,Z⟩ (zi ⟨Z,by simp; omega⟩ (zi ⟨rfl,by simp; omega⟩ (zi ⟨Z,Z⟩ (zi ⟨rfl,Z⟩ (zi ⟨Z,Z⟩ (zi ⟨qw,by simp; omega⟩ (z8 (zi (qw) (zd ?_))))))))))
  dsimp only
  refine⟨⟨rfl,X.zhX hk hw hwl,Z,Z,by simp; omega,?_⟩,Z⟩
  rw[U,hfx,hfw]; exact h6
 ·have:w=k:=by simp at hn; omega
  subst this
  have:=X.c w hk hw
  exact z8 (zd ⟨X,h5,by rw[<- h6,this],Z,Z,this⟩)
theorem z2L{f:Int->Int}(n:Nat)(v w:Int)(r:List Int)(h:G.RL r f/\0<=v/\v<n/\0<=w/\w<n/\r.length=n):(bF (0,n) v w r).wp λz=>G.RL z.2 (G.jn f v w)/\z.2.length=n/\z.1=decide (f v≠f w):=by
 obtain⟨h1,X,h3,h4,h5,h6⟩:=h
 obtain⟨v,rfl⟩:=Y X
 obtain⟨w,rfl⟩:=Y h4
 have h:=qM h1 (qM X (qM h3 (qM h4 (qM h5 h6))))
 unfold bF
 refine z8 (z8 (xc (xp (S8 n (v:Int) r ⟨h.1,h.2.1,h.2.2.1,h.2.2.2.2.2⟩) λz ⟨a1,a2,a3,a4,a5,a6⟩=>zi (Z) (z8 (xc (xp (S8 n (w:Int) z.2 ⟨a1,h.2.2.2.1,h.2.2.2.2.1,a2⟩) λy ⟨b1,b2,b3,b4,b5,b6⟩ => ?_))))))
 have hm:iA z.1 y.1=max z.1 y.1:=by unfold iA; split<;>omega
 have hi:V9 z.1 y.1=min z.1 y.1:=by unfold V9; split<;>omega
 dsimp only
 rw[hm,hi]
 obtain⟨a,ha⟩:=Y a4
 obtain⟨b,J⟩:=Y b4
 have hj:=b1.join (v:=v) (w:=w) (a:=a) (b:=b) (Z) (Z) (Z) (Z) (by rw[<- ha]; exact a6) (by rw[<- J]; exact b6)
 have e1:0+(max z.1 y.1).toNat=max a b:=Z
 have e2:min z.1 y.1=((min a b:Nat):Int):=Z
 rw[e1,e2]
 refine zi ⟨Z,Z⟩ (zi ⟨Z,Z⟩ (zi (qw) (zd ⟨hj,by simp; omega,?_⟩)))
 rw[a3,b3]
 by_cases e:f v=f w<;>simp[e]
theorem z1H:∀ (a:List (List Int)) (b:List Int) (f:Int->Int) (i:Int),0<=i->G.UN f i a = -1->G.UN f i (a++[b])=if(G.OB (a.foldl (λf c=>(G.OB f c).1) f) b).2=true then -1 else i+a.length:=by
 intro a
 induction a with
 | nil=>intro b f i h0 h; simp[G.UN]
 | cons c a ih =>
  intro b f i h0 h
  unfold G.UN at h
  rw[List.cons_append]
  unfold G.UN
  split at h
  ·rename_i e
   rw[if_pos e,ih b _ (i+1) (Z) h,List.foldl_cons]
   simp only[List.length_cons]
   split
   ·rfl
   ·omega
  ·omega
open T PL
theorem z8l(n:Nat)(hn:n<=64)(d:List vM)(m:Int):(oB d m (n:Int) (0,qL n 0)).wp λr=>G.RL r id/\r.length=n:=by
 unfold oB
 refine vY (σ:=Int×List Int) (λ(b,a)=>0<=b/\b<=n/\a.length=n/\∀ (j:Nat) (h:j<a.length),(j:Int)<b->a[j]=j) (λ(b,_)=>(n-b).toNat) ⟨Z,Z,qw,λj h h'=>Z⟩ λ⟨b,a⟩ ⟨h0,h1,X,h3⟩ => ?_
 unfold oF
 refine ze (λh => ?_) λh => ?_
 ·have h:=uC h
  refine qo ⟨Z,Z⟩ (zi ⟨rfl,Z⟩ (uz (qw) (zd ?_)))
  rw[qs (Z) (Z)]
  refine⟨⟨Z,Z,by simp; omega,λj hj J => ?_⟩,by dsimp only; omega⟩
  rw[qE]
  split
  ·omega
  ·exact h3 j (by simpa using hj) (Z)
 ·have h:=ga h
  exact zc (z8 (zd ⟨⟨λv hv=>by rw[h3 v hv (Z)]; omega,λv hv=>by rw[h3 v hv (Z)],λv hv _=>rfl⟩,X⟩))
theorem z5l(c:vM)(i:Int)(h0:0<=i)(h1:i<c.2.1.length):(vs c)[i.toNat]? = some (nth c.2.1 i (zb qk)).1:=by
 unfold vs nth
 rw[List.getElem?_map,zA,zH (Z)]
 rfl
theorem zd1{f0:Int->Int}(n:Nat)(c:vM)(hc:VC n c)(B:c.2.1.length<=1000)(i first:Int)(k m q)(x5)(row:List Int)(hr:G.RL row f0)(hn:row.length=n) :
  (oD k i x5 m q (first,1,row,c)).wp λ(z:Int×List Int×vM)=>G.RL z.2.1 (G.OB f0 (vs c)).1/\z.2.1.length=n/\z.1=if first<0/\(G.OB f0 (vs c)).2=false then i else first:=by
 unfold oD
 obtain⟨t,r,hv⟩ | hv:(∃ t r,vs c=t::r)\/vs c=[]:=by cases vs c with | nil=>exact .inr rfl | cons t r=>exact .inl ⟨t,r,rfl⟩
 ·rw[hv]
  have hlen:c.2.1.length=r.length+1:=by have:=congrArg qC hv; unfold vs at this; simpa using this
  have ht:(nth c.2.1 0 (zb qk)).1=t:=by have:=z5l c 0 (Z) (Z); rw[hv]at this; simpa using this.symm
  show(T.loop _ _).wp λ(z:Int×List Int×vM)=>G.RL z.2.1 (G.Ym f0 t r).1/\z.2.1.length=n/\z.1=if first<0/\(G.Ym f0 t r).2=false then i else first
  refine vY (σ:=Int×Int×List Int×vM) (λ(f,e,a,b)=>b=c/\1<=e/\e<=c.2.1.length/\a.length=n/\∃ g ok,G.RL a g/\(G.Ym f0 t r).1=(G.Ym g t (r.drop (e-1).toNat)).1/\(G.Ym f0 t r).2=(ok&&(G.Ym g t (r.drop (e-1).toNat)).2)/\f=if first<0/\ok=false then i else first)
   (λ(_,e,_,_)=>(c.2.1.length-e).toNat) ⟨rfl,Z,Z,hn,f0,true,hr,qw,qw,qw⟩ λ⟨f,e,a,b⟩ ⟨h1,X,h3,h4,g,ok,h5,h6,h7,h8⟩ => ?_
  subst h1
  unfold fq
  refine ze (λh => ?_) λh => ?_
  ·have h:=uC h
   have e0:=(hc.2.2 _ (xj (d:=zb qk) (i:=0) (Z) (Z)))
   have e1:=(hc.2.2 _ (xj (d:=zb qk) (i:=e) (Z) h))
   have V:r.drop (e-1).toNat=(nth b.2.1 e (zb qk)).1::r.drop (e+1-1).toNat:=by
    have:=z5l b e (Z) h
    rw[hv,show e.toNat=(e-1).toNat+1 by omega,List.getElem?_cons_succ]at this
    obtain⟨wO,he⟩:=List.getElem?_eq_some_iff.1 this
    rw[zZ wO,he,show(e+1-1).toNat=(e-1).toNat+1 by omega]
   rw[V]at h6 h7
   rw[ht]at e0
   dsimp only
   rw[ht]
   generalize (nth b.2.1 e (zb qk)).1=w at *
   rw[h4]
   refine xc (qo ⟨Z,Z⟩ (qo ⟨Z,h⟩ (z8 (z8 (xc (xp (z2L n t w a ⟨h5,e0.1,e0.2,e1.1,e1.2,h4⟩) λz hz => ?_))))))
   obtain⟨z1,z2⟩:=z
   obtain⟨k1,k2,k3⟩:=hz
   dsimp only at k1 k2 k3 ⊢
   have hw:q9 (e+1)=e+1:=qs (Z) (Z)
   have U:(G.Ym g t (w::r.drop (e+1-1).toNat))=((G.Ym (G.jn g t w) t (r.drop (e+1-1).toNat)).1,decide (g t≠g w)&&(G.Ym (G.jn g t w) t (r.drop (e+1-1).toNat)).2):=rfl
   rw[U]at h6 h7
   have fin:∀ f',(f'=if first<0/\(ok&&decide (g t≠g w))=false then i else first)->f'=f'->b=b/\1<=e+1/\e+1<=b.2.1.length/\z2.length=n/\∃ g ok,G.RL z2 g/\(G.Ym f0 t r).1=(G.Ym g t (r.drop (e+1-1).toNat)).1/\(G.Ym f0 t r).2=(ok&&(G.Ym g t (r.drop (e+1-1).toNat)).2)/\f'=if first<0/\ok=false then i else first :=
    λf' hf _=>⟨rfl,Z,Z,k2,_,_,k1,h6,by rw[h7,Bool.and_assoc],hf⟩
   refine ze (λhz => ?_) λhz => ?_
   ·refine zi ⟨k2.symm,rfl,k2.symm⟩ (z8 (zd (ze (λh9 => ?_) λh9 => ?_)))
    ·have h9:=uC h9
     refine zc (z8 (zd ?_))
     rw[hw]
     have e:g t=g w:=by rw[k3]at hz; simpa using hz
     refine⟨fin i ?_ rfl,by dsimp only; omega⟩
     rw[h8]at h9
     simp only[e,ne_eq,not_true_eq_false,decide_false,Bool.and_false,and_true]
     split
     ·rfl
     ·rename_i Om; rw[if_neg (λh=>Om h.1)]at h9; exact absurd h9 Om
    ·have h9:=ga h9
     refine zc (z8 (zd ?_))
     rw[hw]
     have e:g t=g w:=by rw[k3]at hz; simpa using hz
     refine⟨fin f ?_ rfl,by dsimp only; omega⟩
     rw[h8]at h9 ⊢
     simp only[e,ne_eq,not_true_eq_false,decide_false,Bool.and_false,and_true]
     by_cases Om:first<0/\ok=false
     ·rw[if_pos Om,if_pos Om.1]
     ·rw[if_neg Om]at h9 ⊢; rw[if_neg h9]
   ·refine zi ⟨k2.symm,rfl,k2.symm⟩ (z8 (zd (ze (λh9=>nomatch h9) λ_ => ?_)))
    refine zc (z8 (zd ?_))
    rw[hw]
    have e:decide (g t≠g w)=true:=by rw[k3]at hz; simpa using hz
    refine⟨fin f ?_ rfl,by dsimp only; omega⟩
    rw[e,Bool.and_true]; exact h8
  ·have h:=ga h
   rw[qG (Z)]at h6 h7
   refine zc (z8 (zd ⟨by rw[h6]; exact h5,h4,?_⟩))
   rw[h7]
   simpa[G.Ym]using h8
 ·rw[hv]
  have hlen:c.2.1.length=0:=by have:=congrArg qC hv; unfold vs at this; simpa using this
  refine vY (λs=>s=(first,1,row,c)) (λ_=>0) rfl λs hs => ?_
  subst hs
  unfold fq
  exact ze (λh=>absurd (uC h) (by rw[hlen]; omega)) λ_=>zc (z8 (zd ⟨hr,hn,by simp[G.OB]⟩))
open T PL
def cw(c:vM):Prop:=cg c/\cb c<=1000000/\c.2.1.length<=1000
def Ac(n:Int)(l:List vM):Prop:=l.length<=1000/\∀ c∈l,cw c/\(dB c n).run=some true
theorem Ac.vc{n:Int}{l:List vM}(h:Ac n l)(hn:n<=64){c:vM}(hc:c∈l):VC n c:=by
 obtain⟨h1,X⟩:=h.2 c hc
 exact Ue ((inferInstance:Sp (dB c n) (n<=1000000/\cg c/\cb c<=1000000/\c.2.1.length<=1000000) (λr=>r=true->VC n c)).sp ⟨Z,h1.1,h1.2.1,by have:=h1.2.2; omega⟩) X rfl
instance (l:List vM) (n:Int):Sp (nM l n) (0<=n/\n<=64/\Ac n l) (λr => -1<=r/\r<l.length/\(r<0->G.UN id 0 (l.map vs) = -1)):=⟨λ⟨h0,h1,X⟩=>by
 obtain⟨n,rfl⟩:=Y h0
 have B:=X.1
 have e1:V9 (iA (n:Int) 0) 64=(n:Int):=by unfold V9 iA; split<;>split<;>omega
 unfold nM Qb
 dsimp only
 rw[e1,zL]
 refine xc (zi ⟨Z,Z,Z,Z⟩ (uz (qw) (xc (xp (z8l n (Z) l n) λrow ⟨a1,a2⟩=>zc (z8 (xc ?_))))))
 refine xp (P:=λ(z:Int×List Int) => -1<=z.1/\z.1<l.length/\(z.1<0->G.UN id 0 (l.map vs) = -1)) ?_ λz hz=>z8 (zd (zd hz))
 unfold X0
 refine vY (σ:=Int×Int×List Int) (λ(e,b,a)=>0<=b/\b<=l.length/\a.length=n/\G.RL a (((l.take b.toNat).map vs).foldl (λf c=>(G.OB f c).1) id) /\ -1<=e/\e<max b 1/\(e<b)/\(e<0->G.UN id 0 ((l.take b.toNat).map vs) = -1)) (λ(_,b,_)=>(l.length-b).toNat)
  ⟨Z,Z,a2,by simpa using a1,Z,Z,Z,λ_=>rfl⟩ λ⟨e,b,a⟩ ⟨b0,b1,b2,b3,b4,b5,b6,b7⟩ => ?_
 unfold oG
 refine ze (λh => ?_) λh => ?_
 ·have h:=uC h
  have hm:=xj (d:=zb zq) b0 h
  have hv:=X.vc h1 hm
  obtain⟨k1,k2⟩:=X.2 _ hm
  have ht:=cV l b (zb zq) b0 h
  have hw:q9 (b+1)=b+1:=qs (Z) (Z)
  dsimp only
  generalize nth l b (zb zq)=c at *
  refine qo ⟨b0,h⟩ (xc (gI k2 (ze nofun λ_=>zc (z8 (xc (xp (zd1 n c hv k1.2.2 b e _ _ _ _ a b3 b2) λz hz => ?_))))))
  obtain⟨z1,z2,z3⟩:=z
  obtain⟨c1,c2,c3⟩:=hz
  refine zc (z8 (zd ?_))
  dsimp only at c1 c2 c3 ⊢
  rw[hw,ht,zS,List.foldl_append]
  refine⟨⟨Z,Z,c2,by simpa using c1,?_,?_,?_,λhz => ?_⟩,Z⟩
  ·rw[c3]; split<;>omega
  ·rw[c3]; split<;>omega
  ·rw[c3]; split<;>omega
  ·rw[c3]at hz
   have he:e<0:=by split at hz<;>omega
   rw[List.map_singleton,z1H _ _ _ _ (Z) (b7 he)]
   split
   ·rfl
   ·rename_i hf
    rw[if_pos ⟨he,by simpa using hf⟩]at hz
    omega
 ·have h:=ga h
  have e2:l.take b.toNat=l:=zF (Z)
  rw[e2]at b7
  exact zc (z8 (zd ⟨b4,by dsimp only; omega,b7⟩))⟩
instance (l:List vM) (n:Int):Sp (pH l n) (0<=n/\n<=64/\Ac n l) (λr=>r=true->G.UN id 0 (l.map vs) = -1):=⟨λh=>by unfold pH; exact gog⟩
open T PL
def mx(S:Int->Int)(v w:Int)(l:List Term):Int:=l.foldl (λw t=>if t.1=v then w else max w (S t.1)) w
theorem J2{S S':Int->Int}{v:Int}:∀ (l:List Term) (w:Int),(∀ t∈l,t.1≠v->S t.1=S' t.1)->mx S v w l=mx S' v w l
 | [],_,_=>rfl
 | t::r,w,h=>by
  show mx S v (if t.1=v then w else max w (S t.1)) r=mx S' v (if t.1=v then w else max w (S' t.1)) r
  rw[J2 r _ λu hu=>h u (R _ hu)]
  by_cases e:t.1=v
  ·rw[if_pos e,if_pos e]
  ·rw[if_neg e,if_neg e,h t zE e]
abbrev di:Int:=zb (.int .i64)
structure Ch(n:Nat)(l:List vM)(o b:List Int):Prop where
 ac:Ac n l
 n1:1<=n
 n64:n<=64
 fr:G.UN id 0 (l.map vs) = -1
 ol:o.length=l.length
 bl:b.length=n
 oc:∀ i:Int,0<=i->i<l.length->nth o i di = -1\/(nth o i di∈vs (nth l i (zb zq))/\nth b (nth o i di) di=i)
 bc:∀ v:Int,0<=v->v<n->nth b v di = -1\/(0<=nth b v di/\nth b v di<l.length/\nth o (nth b v di) di=v)
theorem iW{c:vM}{v:Int}:v∈vs c↔∃ t∈c.2.1,t.1=v:=by unfold vs; simp
theorem Ch.vr{n:Nat}{l:List vM}{o b:List Int}(h:Ch n l o b){i:Int}(h0:0<=i)(h1:i<l.length){v:Int}(hv:v∈vs (nth l i (zb zq))):0<=v/\v<n:=by
 obtain⟨t,ht,rfl⟩:=iW.1 hv
 exact(h.ac.vc (by have:=h.n64; omega) (xj h0 h1)).2.2 t ht
theorem S5{l:List vM}{o:List Int}(hf:G.UN id 0 (l.map vs) = -1):∃ (rk:Int->Nat) (hl:Nat),(∀ v,rk v<=hl)/\∀ i:Int,0<=i->i<l.length->i<o.length->nth o i di∈vs (nth l i (zb zq))->∀ t∈vs (nth l i (zb zq)),t≠nth o i di->rk t<rk (nth o i di):=by
 obtain⟨rk,hl,hB,hA⟩:=G.znr (l.map vs) o id 0 (λ_=>0) 0 [] [] (Z) hf rfl (λ_=>zT _) (λc hc=>by cases hc) (λi h=>by cases h)
 simp only[List.nil_append]at hA
 refine⟨rk,hl,hB,λi h0 h1 X hm t ht ku => ?_⟩
 obtain⟨k,rfl⟩:=Y h0
 have hk:k<l.length:=Z
 have YB:k<o.length:=Z
 have e1:nth o (k:Int) di=o[k]:=by simp[nth,YB]
 have e2:nth l (k:Int) (zb zq)=l[k]:=by simp[nth,hk]
 rw[e1]at hm ku ⊢
 rw[e2]at hm ht
 exact hA k (by simpa using hk) YB (by simpa using hm) t (by simpa using ht) ku
def sN(l:List vM)(b:List Int):Nat->Int->Int
 | 0,_=>4
 | k+1,v=>if nth b v di = -1 then 4 else mx (sN l b k) v (nth l (nth b v di) (zb zq)).1 (nth l (nth b v di) (zb zq)).2.1
def Sg(n:Nat)(l:List vM)(b:List Int)(S:Int->Int):Prop:=∀ v:Int,0<=v->v<n->S v=if nth b v di = -1 then 4 else mx S v (nth l (nth b v di) (zb zq)).1 (nth l (nth b v di) (zb zq)).2.1
def Rk(n:Nat)(l:List vM)(b:List Int)(rk:Int->Nat):Prop:=∀ v:Int,0<=v->v<n->nth b v di ≠ -1->∀ t∈vs (nth l (nth b v di) (zb zq)),t≠v->rk t<rk v
theorem Ch.rk{n:Nat}{l:List vM}{o b:List Int}(h:Ch n l o b):∃ (rk:Int->Nat) (hl:Nat),(∀ v,rk v<=hl)/\Rk n l b rk:=by
 obtain⟨rk,hl,hB,hr⟩:=S5 (o:=o) h.fr
 refine⟨rk,hl,hB,λv h0 h1 J t ht ku => ?_⟩
 rcases h.bc v h0 h1 with e | ⟨b0,b1,b2⟩
 ·exact absurd e J
 ·have hm:nth o (nth b v di) di∈vs (nth l (nth b v di) (zb zq)):=by
   rcases h.oc _ b0 b1 with e | e
   ·rw[e]at b2; omega
   ·exact e.1
  have:=hr _ b0 b1 (by rw[h.ol]; exact b1) hm t ht (by rw[b2]; exact ku)
  rwa [b2]at this
theorem Ch.sg{n:Nat}{l:List vM}{o b:List Int}(h:Ch n l o b):∃ S,Sg n l b S:=by
 obtain⟨rk,hl,hB,hr⟩:=h.rk
 have more:∀ (k:Nat) (v:Int),0<=v->v<n->rk v<k->sN l b (k+1) v=sN l b k v:=by
  intro k
  induction k with
  | zero=>intro v _ _ hk; omega
  | succ k ih =>
   intro v h0 h1 hk
   show(if nth b v di = -1 then 4 else _)=(if nth b v di = -1 then 4 else _)
   by_cases e:nth b v di = -1
   ·rw[if_pos e,if_pos e]
   ·rw[if_neg e,if_neg e]
    refine J2 _ _ λt ht ku => ?_
    have hm:t.1∈vs (nth l (nth b v di) (zb zq)):=iW.2 ⟨t,ht,rfl⟩
    rcases h.bc v h0 h1 with e' | ⟨b0,b1,_⟩
    ·exact absurd e' e
    ·have hv:=h.vr b0 b1 hm
     exact ih t.1 hv.1 hv.2 (by have:=hr v h0 h1 e t.1 hm ku; omega)
 refine⟨sN l b (hl+1),λv h0 h1 => ?_⟩
 rw[<- more (hl+1) v h0 h1 (by have:=hB v; omega)]
 rfl
open T PL
theorem z1x{α:Type}(l:List α)(i:Int)(d:α)(h0:0<=i)(h:i<l.length):l.drop i.toNat=nth l i d::l.drop (i+1).toNat:=by
 have e:(i+1).toNat=i.toNat+1:=Z
 rw[zZ (Z),e]
 unfold nth
 simp[zA,show i.toNat<l.length by omega]
theorem za5(a b:Int):iA a b=max a b:=by unfold iA; split<;>omega
theorem CF{n:Nat}{l:List vM}{o b:List Int}(h:Ch n l o b){S:Int->Int}(hS:Sg n l b S){rk:Int->Nat}(hr:Rk n l b rk)(v:Int)(hv:0<=v/\v<n) :
  (jR v (l,()) o b).wp λr=>r=(S v,(l,()),o,b):=by
 unfold jR
 refine sZ (x:=(v,(l,()),o,b)) (σ:=Int×(List vM×Unit)×List Int×List Int) (ρ:=Int×(List vM×Unit)×List Int×List Int) (λ(v,c,x,y)=>(c=(l,())/\x=o/\y=b)/\0<=v/\v<n) (λ(v,_)=>rk v) (λ(v,_) r=>r=(S v,(l,()),o,b)) ?_ ?_ ⟨⟨rfl,rfl,rfl⟩,hv⟩
 ·intro g g' hg x
  unfold jf bh kv
  exact mono
 ·rintro⟨v,c,x,y⟩ ⟨⟨rfl,rfl,rfl⟩,hv⟩ g hg
  dsimp only at hg hv ⊢
  unfold jf
  simp only[sB]
  have hs:=hS v hv.1 hv.2
  refine qo ⟨hv.1,by rw[h.bl]; exact hv.2⟩ (zi ⟨rfl,by rw[h.bl]; omega⟩ (ze (λe => ?_) λe => ?_))
  ·rw[if_pos (by simpa using e)]at hs
   exact zc (zc (z8 (z8 (zd (by rw[hs])))))
  ·have e:¬ nth y v di = -1:=by simpa using e
   rw[if_neg e]at hs
   rcases h.bc v hv.1 hv.2 with k | ⟨b0,b1,_⟩
   ·exact absurd k e
   have DB:=hr v hv.1 hv.2 e
   have hvr:=λt ht=>h.vr b0 b1 (v:=t) ht
   have hlen:(nth l (nth y v di) (zb zq)).2.1.length<=1000:=(h.ac.2 _ (xj b0 b1)).1.2.2
   generalize hc:nth l (nth y v di) (zb zq)=c at *
   refine qo ⟨b0,b1⟩ (qo ⟨b0,b1⟩ (zc (zc (z8 (z8 (xc ?_))))))
   refine xp (P:=λz=>z=(S v,(l,()),x,y)) ?_ λz hz=>by subst hz; exact zc (zc (z8 (z8 (zd rfl))))
   unfold bh
   refine vY (σ:=Int×Int×(List vM×Unit)×List Int×List Int) (λ(f,i,q,a,d)=>(q=(l,())/\a=x/\d=y)/\0<=i/\i<=c.2.1.length/\mx S v f (c.2.1.drop i.toNat)=S v) (λ(_,i,_)=>(c.2.1.length-i).toNat) ⟨⟨rfl,rfl,rfl⟩,Z,Z,hs.symm⟩ ?_
   rintro⟨f,i,q,a,d⟩ ⟨⟨rfl,rfl,rfl⟩,i0,i1,hm⟩
   unfold kv
   refine ze (λhi => ?_) λhi => ?_
   ·have hi:=uC hi
    rw[z1x _ _ (zb qk) i0 hi]at hm
    have ht:=xj (d:=zb qk) i0 hi
    have hw:q9 (i+1)=i+1:=qs (Z) (Z)
    dsimp only
    generalize nth c.2.1 i (zb qk)=t at *
    have hm:mx S v (if t.1=v then f else max f (S t.1)) (c.2.1.drop (i+1).toNat)=S v:=hm
    have htv:t.1∈vs c:=iW.2 ⟨t,ht,rfl⟩
    refine qo ⟨i0,hi⟩ (ze (λe => ?_) λe => ?_)
    ·have e:t.1≠v:=by simpa using e
     rw[if_neg e]at hm
     refine zc (zc (z8 (z8 (xc (xp (hg (t.1,(l,()),a,d) ⟨⟨rfl,rfl,rfl⟩,hvr _ htv⟩ (DB _ htv e)) λz hz => ?_)))))
     subst hz
     refine zc (zc (z8 (z8 (zd ?_))))
     rw[hw,za5]
     refine⟨⟨⟨rfl,rfl,rfl⟩,?_,?_,hm⟩,?_⟩<;>clear hs DB hvr hm<;>simp only<;>omega
    ·have e:t.1=v:=by simpa using e
     rw[if_pos e]at hm
     refine zc (zc (z8 (z8 (zd ?_))))
     rw[hw]
     refine⟨⟨⟨rfl,rfl,rfl⟩,?_,?_,hm⟩,?_⟩<;>clear hs DB hvr hm<;>simp only<;>omega
   ·have hi:=ga hi
    rw[qG (Z)]at hm
    exact zc (zc (z8 (z8 (zd (by have:f=S v:=hm; rw[this])))))
def Wk1(S:Int->Int)(taken:List Int)(w:Int)(l:List Term)(j:Int):Prop:=(j = -1/\∀ t∈l,t.1∈taken\/S t.1<=w)\/((∃ t∈l,t.1=j)/\j ∉ taken/\w<S j/\∀ t∈l,t.1∈taken\/S t.1<=S j)
theorem ND{n:Nat}{l:List vM}{o b:List Int}(h:Ch n l o b){S:Int->Int}(hS:Sg n l b S){rk:Int->Nat}(hr:Rk n l b rk)(i:Int)(hi:0<=i/\i<l.length)(q:List Int) :
  (yo i (l,()) q o b).wp λr=>r.2=((l,()),q,o,b)/\Wk1 S q (nth l i (zb zq)).1 (nth l i (zb zq)).2.1 r.1:=by
 unfold yo
 have hvr:=λt ht=>h.vr hi.1 hi.2 (v:=t) ht
 have hlen:(nth l i (zb zq)).2.1.length<=1000:=(h.ac.2 _ (xj hi.1 hi.2)).1.2.2
 dsimp only
 generalize nth l i (zb zq)=c at *
 refine qo hi (qo hi (zc (zc (z8 (z8 (xc ?_))))))
 refine xp (P:=λz=>z.2=((l,()),q,o,b)/\Wk1 S q c.1 c.2.1 z.1) ?_ λz hz=>by
  obtain⟨z1,z2⟩:=z
  obtain⟨rfl,hz⟩:=hz
  exact zc (zc (z8 (z8 (zd ⟨rfl,hz⟩))))
 unfold eI
 refine vY (σ:=Int×Int×Int×(List vM×Unit)×List Int×List Int×List Int) (λ(j,k,i,q',g,a,d)=>(q'=(l,())/\g=q/\a=o/\d=b)/\0<=i/\i<=c.2.1.length/\(j = -1/\k=c.1\/j ≠ -1/\k=S j)/\Wk1 S q c.1 (c.2.1.take i.toNat) j) (λ(_,_,i,_)=>(c.2.1.length-i).toNat)
  ⟨⟨rfl,rfl,rfl,rfl⟩,Z,Z,.inl ⟨rfl,rfl⟩,.inl ⟨rfl,λt ht=>by simp at ht⟩⟩ ?_
 rintro⟨j,k,i,q',g,a,d⟩ ⟨⟨rfl,rfl,rfl,rfl⟩,i0,i1,hk,hw⟩
 unfold gB
 refine ze (λhi => ?_) λhi => ?_
 ·have hi:=uC hi
  have ht:=xj (d:=zb qk) i0 hi
  have hts:=cV c.2.1 i (zb qk) i0 hi
  have hwi:q9 (i+1)=i+1:=qs (Z) (Z)
  dsimp only
  generalize nth c.2.1 i (zb qk)=t at *
  have htr:=hvr _ (iW.2 ⟨t,ht,rfl⟩)
  refine qo ⟨i0,hi⟩ (zc (zc (z8 (z8 (xc (xp (CF h hS hr t.1 htr) λz hz => ?_))))))
  subst hz
  have hwf:wfI t.1:=by
   have:=h.n64
   have:=htr.1
   have:=htr.2
   show(decide (-9223372036854775808<=t.1)&&decide (t.1<=9223372036854775807))=true
   rw[zR,decide_eq_true_eq,decide_eq_true_eq]; exact⟨zO (qh) htr.1,zO (qF htr.2) (Z)⟩
  refine zi hwf (ze (λe=>zc (zc (z8 (z8 (zd ?_))))) λe=>zc (zc (z8 (z8 (zd ?_)))))
  ·simp only[zR,Bool.not_eq_true',decide_eq_true_eq,zV,decide_eq_false_iff_not]at e
   rw[hwi]
   have zvG:=htr.1
   have e2:=e.2
   refine⟨⟨⟨rfl,rfl,rfl,rfl⟩,by simp only; omega,by simp only; omega,.inr ⟨by simp only; omega,rfl⟩,?_⟩,by simp only; omega⟩
   show Wk1 S g c.1 (c.2.1.take (i+1).toNat) t.1
   rw[hts]
   refine .inr ⟨⟨t,qw,rfl⟩,e.1,?_,λu hu => ?_⟩
   ·rcases hk with⟨_,hk⟩ | ⟨hj,hk⟩
    ·omega
    ·rcases hw with hw | hw
     ·exact absurd hw.1 hj
     ·have:=hw.2.2.1; omega
   ·rcases zG.1 hu with hu | hu
    ·rcases hk with⟨hj,hk⟩ | ⟨hj,hk⟩
     ·rcases hw with hw | hw
      ·exact(hw.2 u hu).imp_right λx=>Z
      ·obtain⟨u',TA,e'⟩:=hw.1
       exfalso
       have:=hvr _ (iW.2 ⟨u',zQ TA,rfl⟩)
       have e3:u'.1=j:=e'
       have e4:j = -1:=hj
       rw[e3,e4]at this
       exact absurd this.1 (qh)
     ·rcases hw with hw | hw
      ·exact absurd hw.1 hj
      ·exact(hw.2.2.2 u hu).imp_right λx=>Z
    ·rw[I.1 hu]; exact .inr (qJ _)
  ·simp only[Bool.and_eq_false_iff,Bool.not_eq_false',decide_eq_false_iff_not,zV,decide_eq_true_eq]at e
   rw[hwi]
   refine⟨⟨⟨rfl,rfl,rfl,rfl⟩,by simp only; omega,by simp only; omega,hk,?_⟩,by simp only; omega⟩
   show Wk1 S g c.1 (c.2.1.take (i+1).toNat) j
   rw[hts]
   rcases hw with hw | hw
   ·refine .inl ⟨hw.1,λu hu => ?_⟩
    rcases zG.1 hu with hu | hu
    ·exact hw.2 u hu
    ·rw[I.1 hu]
     rcases hk with hk | hk
     ·exact e.imp_right λx=>Z
     ·exact absurd hw.1 hk.1
   ·refine .inr ⟨by obtain⟨u,hu,e'⟩:=hw.1; exact⟨u,by simp[hu],e'⟩,hw.2.1,hw.2.2.1,λu hu => ?_⟩
    rcases zG.1 hu with hu | hu
    ·exact hw.2.2.2 u hu
    ·rw[I.1 hu]
     rcases hk with hk | hk
     ·obtain⟨u',TA,e'⟩:=hw.1
      exfalso
      have:=hvr _ (iW.2 ⟨u',zQ TA,rfl⟩)
      have e3:u'.1=j:=e'
      have e4:j = -1:=hk.1
      rw[e3,e4]at this
      exact absurd this.1 (qh)
     ·exact e.imp_right λx=>Z
 ·have hi:=ga hi
  rw[zF (Z)]at hw
  exact zc (zc (z8 (z8 (zd ⟨rfl,hw⟩))))
open T PL
abbrev tr(l:List vM)(i:Int):Int:=(nth l i (zb zq)).1
abbrev tm(l:List vM)(i:Int):List Term:=(nth l i (zb zq)).2.1
abbrev vl(l:List vM)(i:Int):List Int:=vs (nth l i (zb zq))
def td:List vM->List Int->Int
 | c::l,w::o=>(if w = -1 then 0 else 5-c.1)+td l o
 | _,_=>0
theorem E3:∀ (l:List vM) (o:List Int) (k:Nat) (w:Int),k<l.length->k<o.length->td l (o.set k w)=td l o+(if w = -1 then 0 else 5-(l.getD k (zb zq)).1)-(if o.getD k di = -1 then 0 else 5-(l.getD k (zb zq)).1)
 | c::l,x::o,0,w,_,_=>by simp only[List.set_cons_zero,td,List.getD_cons_zero]; omega
 | c::l,x::o,k+1,w,h,h'=>by
  have:=E3 l o k w (by simpa using h) (by simpa using h')
  simp only[List.set_cons_succ,td,List.getD_cons_succ]
  omega
theorem z4E:∀ (l:List vM) (o:List Int),(∀ c∈l,0<=c.1/\c.1<=4)->0<=td l o/\td l o<=5*l.length
 | [],[],_ | [],_::_,_ | _::_,[],_=>by simp only[td,qC]; omega
 | c::l,x::o,h=>by
  have h1:=z4E l o λc hc=>h c (R _ hc)
  obtain⟨X,h3⟩:=h c zE
  have X:(0:Int)<=c.1:=X
  have h3:(4:Int) >= c.1:=h3
  simp only[td,List.length_cons]
  split<;>omega
theorem VX{α:Type}{l:List α}{i j:Int}{x d:α}(h0:0<=i)(h1:i<l.length)(h:0<=j):nth (l.set (0+i.toNat) x) j d=if j=i then x else nth l j d:=by
 unfold nth
 rw[zA,List.getElem?_set,zA]
 by_cases e:j=i
 ·rw[if_pos (Z),if_pos (Z),if_pos e]; rfl
 ·rw[if_neg (Z),if_neg e]
theorem z1m{p q:Nat->Bool}{a:Nat}:∀ (l:List Nat),(∀ x,q x=true->p x=true)->a∈l->p a=true->q a=false->l.countP q<l.countP p
 | x::l,h,ha,h1,X=>by
  rw[List.countP_cons,List.countP_cons]
  have hle:l.countP q<=l.countP p:=List.countP_mono_left λx _=>h x
  rcases zI.1 ha with rfl | hm
  ·rw[h1,X]; simp only[if_true,Bool.false_eq_true,if_false]; exact Nat.lt_succ_of_le hle
  ·have:=z1m l h hm h1 X
   cases hq:q x
   ·rw[if_neg (qh)]; omega
   ·rw[h x hq,if_pos rfl]; omega
def un(n:Nat)(s:List Int):Nat:=(List.range n).countP λ(v:Nat) => !s.contains (v:Int)
theorem znD{n:Nat}{s s':List Int}{j:Int}(hs:∀ x∈s,x∈s')(h:j∈s')(h':j ∉ s)(h0:0<=j)(h1:j<n):un n s'<un n s:=by
 obtain⟨k,rfl⟩:=Y h0
 refine z1m (a:=k) _ (λx U => ?_) (List.mem_range.2 (Z)) (by simpa using h') (by simpa using h)
 simp only[Bool.not_eq_true',zV,decide_eq_false_iff_not]at U ⊢
 exact λk=>U (hs _ k)
theorem z47{S:Int->Int}{v M:Int}:∀ (l:List Term) (w:Int),w<=M->(∀ t∈l,t.1≠v->S t.1<=M)->mx S v w l<=M
 | [],_,h,_=>h
 | t::r,w,h,k=>by
  refine z47 r _ ?_ λu hu=>k u (R _ hu)
  dsimp only
  split
  ·exact h
  ·have:=k t zE ‹_›
   omega
section
variable {n:Nat} {l:List vM} {o b o2 b2:List Int} {c j:Int}
theorem Ch.step(h:Ch n l o b)(c0:0<=c)(c1:c<l.length)(ho:nth o c di = -1)(hj:j∈vl l c)(l2:o2.length=l.length)
  (e2:∀ k:Int,0<=k->k<l.length->nth o2 k di=if k=c then j else if k=nth b j di then -1 else nth o k di) (l3:b2.length=n) (e3:∀ v:Int,0<=v->nth b2 v di=if v=j then c else nth b v di):Ch n l o2 b2:=by
 have EE:=h.vr c0 c1 hj
 have hbj:=h.bc j EE.1 EE.2
 refine⟨h.ac,h.n1,h.n64,h.fr,l2,l3,λi i0 i1 => ?_,λv v0 v1 => ?_⟩
 ·rw[e2 i i0 i1]
  by_cases k:i=c
  ·rw[if_pos k,e3 j EE.1,if_pos rfl,k]; exact .inr ⟨hj,rfl⟩
  ·rw[if_neg k]
   by_cases k':i=nth b j di
   ·rw[if_pos k']; exact .inl rfl
   ·rw[if_neg k']
    refine(h.oc i i0 i1).imp_right λ⟨m,e⟩=>⟨m,?_⟩
    rw[e3 _ (h.vr i0 i1 m).1,if_neg (λx=>k' (by rw[<- x,e]))]
    exact e
 ·rw[e3 v v0]
  by_cases k:v=j
  ·rw[if_pos k,e2 c c0 c1,if_pos rfl]; exact .inr ⟨c0,c1,k.symm⟩
  ·rw[if_neg k]
   refine(h.bc v v0 v1).imp_right λ⟨b0,b1,e⟩=>⟨b0,b1,?_⟩
   rw[e2 _ b0 b1,if_neg (λx=>by rw[x,ho]at e; omega),if_neg (λx => ?_)]
   ·exact e
   ·rcases hbj with y | y
    ·rw[x,y]at b0; exact absurd b0 (qh)
    ·exact k (by rw[<- e,x,y.2.2])
theorem zaN(h:Ch n l o b){rk:Int->Nat}(hr:Rk n l b rk){S S':Int->Int}(hS:Sg n l b S)(e3:∀ v:Int,0<=v->nth b2 v di=if v=j then c else nth b v di)(hS':Sg n l b2 S') :
  ∀ (k:Nat) (u:Int),0<=u->u<n->rk u<k->rk u<rk j->S' u=S u:=by
 intro k
 induction k with
 | zero=>intro u _ _ h; omega
 | succ k ih =>
  intro u u0 u1 hk hj
  have e:nth b2 u di=nth b u di:=by rw[e3 u u0,if_neg (λx=>by rw[x]at hj; omega)]
  rw[hS' u u0 u1,hS u u0 u1,e]
  by_cases x:nth b u di = -1
  ·rw[if_pos x,if_pos x]
  ·rw[if_neg x,if_neg x]
   refine J2 _ _ λt ht ku => ?_
   have hm:=iW.2 ⟨t,ht,rfl⟩
   rcases h.bc u u0 u1 with y | ⟨b0,b1,_⟩
   ·exact absurd y x
   ·have hv:=h.vr b0 b1 hm
    have:=hr u u0 u1 x t.1 hm ku
    exact ih t.1 hv.1 hv.2 (Z) (Z)
def TK(l:List vM)(o s:List Int)(v:Int):Prop:=∀ rk:Int->Nat,(∀ m:Int,0<=m->m<l.length->nth o m di∈s->∀ t∈vl l m,t≠nth o m di->rk t<rk (nth o m di))->∀ u∈s,rk u<=rk v
theorem TK.free{s:List Int}{v:Int}(k:TK l o s v)(h:Ch n l o b)(hs:∀ x∈s,0<=x/\x<n)(c0:0<=c)(c1:c<l.length)(ho:nth o c di = -1)(hv:v∈vl l c){t:Int}(ht:t∈vl l c)(ku:t≠v):t ∉ s:=λhts=>by
 obtain⟨rk,hl,_,hr⟩:=S5 (o:=o.set (0+c.toNat) t) h.fr
 have hol:=h.ol
 have hc:nth (o.set (0+c.toNat) t) c di=t:=by rw[VX c0 (Z) c0,if_pos rfl]
 have h1:=hr c c0 c1 (by rw[List.length_set]; omega) (by rw[hc]; exact ht) v hv (by rw[hc]; exact ku.symm)
 rw[hc]at h1
 have X:=k rk (λm m0 m1 hm u hu ku => ?_) t hts
 ·omega
 ·have hmc:m≠c:=λx=>by rw[x,ho]at hm; exact absurd (hs _ hm).1 (qh)
  have e:nth (o.set (0+c.toNat) t) m di=nth o m di:=by rw[VX c0 (Z) m0,if_neg hmc]
  have:=hr m m0 m1 (by rw[List.length_set]; omega)
  rw[e]at this
  refine this ?_ u hu ku
  rcases h.oc m m0 m1 with x | x
  ·rw[x]at hm; exact absurd (hs _ hm).1 (qh)
  ·exact x.1
theorem TK.step{s:List Int}(h:Ch n l o b)(hs:∀ x∈s,0<=x/\x<n)(c0:0<=c)(c1:c<l.length)(ho:nth o c di = -1)(hj:j∈vl l c)(hjs:j ∉ s)
  (e2:∀ k:Int,0<=k->k<l.length->nth o2 k di=if k=c then j else if k=nth b j di then -1 else nth o k di) (hk:s=[]\/∃ v∈vl l c,TK l o s v):TK l o2 (s++vl l c) j:=λrk hrk=>by
 have hc:∀ t∈vl l c,rk t<=rk j:=λt ht=>by
  by_cases e:t=j
  ·rw[e]; exact zT _
  ·have:=hrk c c0 c1
   rw[e2 c c0 c1,if_pos rfl]at this
   exact Nat.le_of_lt (this (qI _ hj) t ht e)
 intro u hu
 rcases zG.1 hu with hu | hu
 ·rcases hk with rfl | ⟨v,hv,hk⟩
  ·cases hu
  ·refine qO (hk rk (λm m0 m1 hm => ?_) u hu) (hc v hv)
   have hmc:m≠c:=λx=>by rw[x,ho]at hm; exact absurd (hs _ hm).1 (qh)
   have hmb:m≠nth b j di:=λx=>by
    have EE:=h.vr c0 c1 hj
    rcases h.bc j EE.1 EE.2 with y | y
    ·rw[x,y]at m0; exact absurd m0 (qh)
    ·rw[x,y.2.2]at hm; exact hjs hm
   have:=hrk m m0 m1
   rw[e2 m m0 m1,if_neg hmc,if_neg hmb]at this
   exact this (qK _ hm)
 ·exact hc u hu
end
theorem zch{t:Int}(h : -9223372036854775808<=t)(h':t<=9223372036854775807):wfI t:=by
 show(decide (-9223372036854775808<=t)&&decide (t<=9223372036854775807))=true
 rw[zR,decide_eq_true_eq,decide_eq_true_eq]
 exact⟨h,h'⟩
theorem z1y(p:Int)(e:List Term)(L:List vM)(o b s:List Int)(he:∀ t∈e,0<=t.1/\t.1<64)(B:s.length+e.length<=4294967295) :
  (yT p e (Nat.cast (qC e):Int) (0,((L,()),(o,(b,s))))).wp λr=>r=((L,()),o,b,s++e.map (·.1)):=by
 unfold yT
 refine vY (σ:=Int×(List vM×Unit)×List Int×List Int×List Int) (λ(i,q,x,y,z)=>(q=(L,())/\x=o/\y=b/\z=s++(e.take i.toNat).map (·.1))/\0<=i/\i<=e.length) (λ(i,_)=>(e.length-i).toNat) ⟨⟨rfl,rfl,rfl,qw⟩,Z,Z⟩ ?_
 rintro⟨i,q,x,y,z⟩ ⟨⟨rfl,rfl,rfl,rfl⟩,i0,i1⟩
 unfold yV
 refine ze (λhi => ?_) λhi => ?_
 ·have hi:=uC hi
  have ht:=he _ (xj (d:=zb qk) i0 hi)
  have hts:=cV e i (zb qk) i0 hi
  have hwi:q9 (i+1)=i+1:=qs (Z) (Z)
  refine qo ⟨i0,hi⟩ (zi ⟨rfl,?_,?_⟩ (zc (zc (z8 (z8 (zd ?_))))))
  ·exact zch (zO (qh) ht.1) (zO (qF ht.2) (qh))
  ·rw[List.length_append,List.length_map,List.length_take]; omega
  ·rw[hwi]
   refine⟨⟨⟨rfl,rfl,rfl,?_⟩,Z,Z⟩,by simp only; omega⟩
   rw[hts,zS,qB]
   rfl
 ·have hi:=ga hi
  rw[zF (Z)]
  exact zc (zc (z8 (z8 (zd rfl))))
theorem zd5{n:Nat}{l:List vM}{o b:List Int}(h:Ch n l o b){c:Int}(hc:0<=c/\c<l.length)(ho:nth o c di = -1) :
  (kU c (l,()) o b).wp λr=>r.1=(l,())/\Ch n l r.2.1 r.2.2/\(r.2.1=o/\r.2.2=b\/td l o<td l r.2.1):=by
 unfold kU dD
 have hn:=h.n64
 refine zc (zc (z8 (z8 (xc (xp (P:=λz=>z.elim (λ(p,x,y,_)=>p=(l,())/\Ch n l x y/\(x=o/\y=b\/td l o<td l x)) (λ(p,x,y,_)=>p=(l,())/\Ch n l x y/\(x=o/\y=b\/td l o<td l x))) ?_ λz hz => ?_)))))
 case refine_2 =>
  rcases z with⟨p,x,y,s⟩ | ⟨p,x,y,s⟩<;>obtain⟨rfl,hz⟩:=hz<;>exact zc (zc (z8 (z8 (zd ⟨rfl,hz⟩))))
 refine vY (σ:=Int×(List vM×Unit)×List Int×List Int×List Int) (λ(i,p,x,y,s)=>p=(l,())/\Ch n l x y/\(∀ u∈s,0<=u/\u<n)/\s.length+1000*un n s<=1000*n /\
   (i = -1/\td l o<td l x\/(0<=i/\i<l.length/\nth x i di = -1)/\(i=c/\x=o/\y=b/\s=[]\/∃ (v M:Int),v∈vl l i/\TK l x s v/\tr l c<M/\td l x=td l o+tr l i-tr l c/\∀ S,Sg n l y S->M<=mx S v (tr l i) (tm l i))))
  (λ(_,_,_,_,s)=>un n s) ⟨rfl,h,nofun,?_,.inr ⟨⟨hc.1,hc.2,ho⟩,.inl ⟨rfl,rfl,rfl,rfl⟩⟩⟩ ?_
 ·have:un n []<=n:=qO qH (by rw[List.length_range]; exact zT _)
  simp only[List.length_nil]; omega
 rintro⟨i,p,x,y,s⟩ ⟨rfl,hC,hs,B,hI⟩
 unfold yU
 simp only[sB]
 refine ze (λhi => ?_) λhi => ?_
 ·have hi:i ≠ -1:=by simpa using hi
  obtain⟨⟨i0,i1,U⟩,hI⟩:=hI.resolve_left λk=>hi k.1
  obtain⟨S,hS⟩:=hC.sg
  obtain⟨rk,hl,_,hr⟩:=hC.rk
  refine zc (zc (z8 (z8 (xc (xp (ND hC hS hr i ⟨i0,i1⟩ s) ?_)))))
  rintro⟨j,q⟩ ⟨rfl,hw⟩
  dsimp only
  have hw:Wk1 S s (tr l i) (tm l i) j:=hw
  have mem:∀ t∈tm l i,t.1∈vl l i:=λt ht=>iW.2 ⟨t,ht,rfl⟩
  refine ze (λe => ?_) λe => ?_
  ·have e:j = -1:=by simpa using e
   refine zc (zc (z8 (z8 (zd ⟨rfl,hC,?_⟩))))
   rcases hI with⟨_,h1,X,_⟩ | ⟨v,M,hv,hk,hM,hp,hm⟩
   ·exact .inl ⟨h1,X⟩
   ·have h1:=hm S hS
    have X:mx S v (tr l i) (tm l i)<=tr l i:=z47 _ _ (qJ _) λt ht ku=>by
     rcases hw with hw | ⟨⟨u,hu,e'⟩,_⟩
     ·exact(hw.2 t ht).resolve_left (hk.free hC hs i0 i1 U hv (mem t ht) ku)
     ·have:=hC.vr i0 i1 (mem u hu)
      rw[e',e]at this
      exact absurd this.1 (qh)
    exact .inr (by show td l o<td l x; omega)
  ·have e:j ≠ -1:=by simpa using e
   obtain⟨⟨t,ht,htj⟩,hjs,wO,hmax⟩:=hw.resolve_left λk=>e k.1
   have hj:j∈vl l i:=htj▸mem t ht
   have EE:=hC.vr i0 i1 hj
   have hbj:=hC.bc j EE.1 EE.2
   have hol:=hC.ol
   have hbl:=hC.bl
   have hVC:=hC.ac.vc (Z) (xj (d:=zb zq) i0 i1)
   have htm:(tm l i).length<=1000:=(hC.ac.2 _ (xj i0 i1)).1.2.2
   have hun:un n (s++vl l i)<un n s:=znD (λu hu=>qK _ hu) (qI _ hj) hjs EE.1 EE.2
   refine qo ⟨EE.1,Z⟩ (zi ⟨rfl,Z⟩ (xc (xp (P:=λz=>∃ o1,z=((l,()),o1,y,s)/\o1.length=x.length/\(∀ k:Int,0<=k->k<l.length->nth o1 k di=if k=nth y j di then -1 else nth x k di)/\td l o1=td l x-if nth y j di = -1 then 0 else 5-tr l (nth y j di)) ?_ ?_)))
   ·refine ze (λe => ?_) λe => ?_
    ·have e:nth y j di ≠ -1:=by simpa using e
     obtain⟨b0,b1,b2⟩:=hbj.resolve_left e
     have hbi:nth y j di<x.length:=Z
     have hbx:0+(nth y j di).toNat<x.length:=Z
     refine qo ⟨b0,hbi⟩ (zi ⟨rfl,hbx⟩ (zi ⟨by rw[List.length_set],rfl,by rw[List.length_set]⟩ (zc (zi (by rw[List.length_set]) (z8 (zd ⟨_,rfl,by rw[List.length_set],λk k0 k1=>VX b0 hbi k0,?_⟩))))))
     have:=E3 l x (0+(nth y j di).toNat) (-1) (Z) (Z)
     rw[this,if_pos rfl,if_neg e,if_neg (show ¬ x.getD (0+(nth y j di).toNat) di = -1 by
      have:x.getD (0+(nth y j di).toNat) di=j:=by rw[Nat.zero_add]; exact b2
      rw[this]; omega),Nat.zero_add]
     show td l x+0-(5-tr l (nth y j di))=_
     omega
    ·have e:nth y j di = -1:=by simpa using e
     exact zc (zc (z8 (z8 (zd ⟨x,rfl,rfl,λk k0 k1=>by rw[e,if_neg (Z)],by rw[if_pos e]; omega⟩))))
   ·rintro _ ⟨o1,rfl,hl1,he1,hp1⟩
    dsimp only
    have e2:∀ k:Int,0<=k->k<l.length->nth (o1.set (0+i.toNat) j) k di=if k=i then j else if k=nth y j di then -1 else nth x k di:=λk k0 k1=>by rw[VX i0 (Z) k0,he1 k k0 k1]
    have e3:∀ v:Int,0<=v->nth (y.set (0+j.toNat) i) v di=if v=j then i else nth y v di:=λv v0=>VX EE.1 (Z) v0
    have hib:i≠nth y j di:=λk=>by
     rcases hbj with k' | ⟨_,_,k'⟩
     ·omega
     ·rw[<- k,U]at k'; omega
    have hp2:td l (o1.set (0+i.toNat) j)=td l o1+(5-tr l i):=by
     have:=E3 l o1 (0+i.toNat) j (Z) (Z)
     rw[this,if_neg e,if_pos (show o1.getD (0+i.toNat) di = -1 by
      rw[Nat.zero_add]; exact(he1 i i0 i1).trans (by rw[if_neg hib,U])),Nat.zero_add]
     show _+(5-tr l i)-0=_
     omega
    have hsl:s.length+(tm l i).length<=4294967295:=Z
    refine qo ⟨i0,Z⟩ (zi ⟨rfl,Z⟩ (qo ⟨EE.1,Z⟩ (zi ⟨rfl,Z⟩ (qo ⟨i0,i1⟩ (zi ⟨by rw[List.length_set],rfl,by rw[List.length_set]⟩ (zi ⟨by rw[List.length_set],rfl,by rw[List.length_set]⟩ (zi (by rw[List.length_set]) (zi (by rw[List.length_set]) (xc (xp (z1y _ _ l _ _ s ?_ ?_) ?_))))))))))
    ·exact λt ht=>by
      have:=hVC.2.2 t ht
      exact⟨this.1,Int.lt_of_lt_of_le this.2 (Z)⟩
    ·exact hsl
    rintro _ rfl
    have hC2:=hC.step i0 i1 U hj (by rw[List.length_set]; omega) e2 (by rw[List.length_set]; omega) e3
    have zuD:(0:Int)<=tr l i:=hVC.1
    have zuE:(4:Int) >= tr l i:=hVC.2.1
    refine zc (zc (z8 (z8 (zd ⟨⟨rfl,hC2,λu hu=>(zG.1 hu).elim (hs u) λk=>hC.vr i0 i1 k,?_,?_⟩,hun⟩))))
    ·show(s++vl l i).length+1000*un n (s++vl l i)<=_
     have:(vl l i).length<=1000:=by unfold vl vs; rw[List.length_map]; exact htm
     rw[List.length_append]; omega
    ·have hM:∃ M:Int,tr l c<M/\M<=S j/\td l x=td l o+(if nth o i di = -1/\x=o/\i=c then 0 else tr l i-tr l c):=by
      rcases hI with⟨h1,X,_,_⟩ | ⟨v,M,hv,hk,hM,hp,hm⟩
      ·exact⟨S j,h1▸wO,qJ _,by rw[if_pos ⟨X▸U,X,h1⟩,X]; omega⟩
      ·refine⟨M,hM,zO (hm S hS) (z47 _ _ (qF wO) λt ht ku=>(hmax t ht).resolve_left (hk.free hC hs i0 i1 U hv (mem t ht) ku)),?_⟩
       rw[hp]
       split
       ·rename_i k; rw[k.2.2]; omega
       ·omega
     obtain⟨M,hM,hMj,hpx⟩:=hM
     have hpx:td l x=td l o+tr l i-tr l c:=by
      rw[hpx]
      split
      ·rename_i k; rw[k.2.2]; omega
      ·omega
     by_cases e':nth y j di = -1
     ·rw[if_pos e']at hp1
      refine .inl ⟨e',?_⟩
      have:tr l c<=4:=(h.ac.vc (Z) (xj (d:=zb zq) hc.1 hc.2)).2.1
      show td l o<td l (o1.set (0+i.toNat) j)
      omega
     ·rw[if_neg e']at hp1
      obtain⟨b0,b1,b2⟩:=hbj.resolve_left e'
      have hjv:j∈vl l (nth y j di):=by
       rcases hC.oc _ b0 b1 with k | k
       ·rw[b2]at k; exact absurd k e
       ·rw[b2]at k; exact k.1
      refine .inr ⟨⟨b0,b1,by show nth _ (nth y j di) di = -1; rw[e2 _ b0 b1,if_neg (λk=>hib k.symm),if_pos rfl]⟩,.inr ⟨j,M,hjv,TK.step hC hs i0 i1 U hj hjs e2 (hI.imp (λk=>k.2.2.2) λ⟨v,_,hv,hk,_⟩=>⟨v,hv,hk⟩),hM,?_,λS' hS' => ?_⟩⟩
      ·show td l (o1.set (0+i.toNat) j)=td l o+tr l (nth y j di)-tr l c
       omega
      ·refine zO hMj (Int.le_of_eq ?_)
       rw[hS j EE.1 EE.2,if_neg e']
       refine J2 _ _ λt ht ku => ?_
       have hm:=iW.2 ⟨t,ht,rfl⟩
       have hv:=hC.vr b0 b1 hm
       exact(zaN hC hr hS e3 hS' _ t.1 hv.1 hv.2 (Nat.lt_succ_self _) (hr j EE.1 EE.2 e' t.1 hm ku)).symm
 ·have hi:i = -1:=by simpa using hi
  refine zc (zc (z8 (z8 (zd ⟨rfl,hC,?_⟩))))
  rcases hI with⟨_,h1⟩ | ⟨⟨h0,_⟩,_⟩
  ·exact .inr h1
  ·omega
open T PL
def Sb(a r:List Int):Prop:=r.length=a.length/\∀ x∈r,x∈a
def ins(l:List vM)(a:List Int):Prop:=∀ x∈a,0<=x/\x<l.length
theorem pq(a:List Int):Sb a a:=⟨rfl,λ_ h=>h⟩
theorem z0W(a r:List Int)(h:Sb a r):r.length=a.length:=h.1
theorem zb8(a b r:List Int)(h:Sb a b)(k:Sb b r):Sb a r:=⟨k.1.trans h.1,λx U=>h.2 x (k.2 x U)⟩
theorem Jb{a:List Int}{i:Nat}{d:Int}(h:i<a.length):wB a i d∈a:=by
 unfold wB
 rw[zA,zH h]
 exact zN h
theorem zgi(a r:List Int)(i j:Nat)(d e:Int)(h:Sb a r)(hi:i<r.length)(hj:j<r.length):Sb a ((r.set i (wB r j d)).set j (wB r i e)):=by
 refine⟨by simpa using h.1,λx U=>h.2 x ?_⟩
 rcases zJ U with k | rfl
 ·rcases zJ k with k | rfl
  ·exact k
  ·exact Jb hj
 ·exact Jb hi
theorem XH(l:List vM)(a r:List Int)(h:Sb a r)(k:ins l a):ins l r:=λx U=>k x (h.2 x U)
theorem US(l:List vM)(a:List Int)(i:Nat)(h:ins l a)(hi:i<a.length):0<=wB a i (zb (.int .i64))/\wB a i (zb (.int .i64))<l.length:=h _ (Jb hi)
theorem GN(x:Int)(h:0<=x)(h':x<=2000000):q9 (j8 .u64 (xo x) 1)=x / 2:=by
 have e:xo x=x:=by rw[Lg]; omega
 rw[e,show j8 .u64 x 1=x / 2 from ?_,qs (Z) (Z)]
 show Int.fdiv x (2 ^ 1)=_
 rw[Int.fdiv_eq_ediv_of_nonneg _ (qh)]
 rfl
theorem lW{p:Prop} (h:p:=by
 intros
 repeat' (with_reducible first
  | refine zd ?_
  | refine ze (λ_ => ?_) (λ_ => ?_)
  | refine z8 ?_
  | refine zc ?_
  | refine uz ?_ ?_
  | refine qo ?_ ?_
  | refine vS ?_ ?_
  | refine wJ ?_ ?_
  | refine zi ?_ ?_
  | refine vX (λ_ _ => ?_) (λ_ _ => ?_)
  | refine za ?_ (λ_ _ => ?_)
  | refine vE ?_ (λ_ _ => ?_)
  | refine xc ?_
  | dsimp only)
 all_goals grind [xe,j6,jc,List.length_set,pq,z0W,zb8,zgi,XH,US,GN]):p:=h
instance (b c:Int) (l:List vM):Sp (wu b c l) (0<=b/\b<l.length/\0<=c/\c<l.length) (λ_=>True):=⟨λh=>by unfold wu cmp_Compare_int cmp_isNaN_int; exact lW⟩
section
variable (l:List vM)
instance (d:Nat×Nat) (c e:Int) (a:List Int):Sp (vd d c e (λz0 z1=>wu z0 z1 l) a) (d=(0,a.length)/\a.length<=1000/\ins l a/\0<=c/\c<=100000/\e<=a.length) (λr=>Sb a r):=⟨λ⟨h0,h1,X,h3,h4,h5⟩=>by
 subst h0
 have L:∀ (i:Int) (x:List Int),Sp (uN c e (λz0 z1=>wu z0 z1 l) i ((0,a.length),(i,x))) (Sb a x/\c<=i/\i<a.length) (λr=>r.1=(0,a.length)/\Sb a r.2):=λi x=>⟨λh=>by
  unfold uN
  refine vY (λ(p,j,b)=>p=(0,a.length)/\c<=j/\j<a.length/\Sb a b) (λ(_,j,_)=>(j-c).toNat) ⟨rfl,h.2.1,h.2.2,h.1⟩ ?_
  rintro⟨p,j,b⟩ ⟨rfl,hj,Oq,J⟩
  have B:=J.1
  have hn:∀ k:Nat,k<a.length->0<=wB b k (zb (.int .i64))/\wB b k (zb (.int .i64))<l.length:=λk hk=>US l b k (XH l a b J X) (Z)
  unfold uP
  clear h X
  exact lW⟩
 unfold vd yk
 refine z8 (z8 (xc (xp (P:=λr=>Sb a r) ?_ λr hr=>z8 (zd hr))))
 refine vY (λ(p,j,b)=>p=(0,a.length)/\c<=j/\j<=200000/\Sb a b) (λ(_,j,_)=>(e-j).toNat) ⟨rfl,by grind [jc],by grind [jc],pq a⟩ ?_
 rintro⟨p,j,b⟩ ⟨rfl,hj,Oq,J⟩
 have B:=J.1
 unfold uO
 exact lW⟩
instance (d:Nat×Nat) (x y n:Int) (g:Int->Int->T Int) (a:List Int):Sp (va d x y n g a) (d=(0,a.length)/\a.length<=1000/\0<=x/\0<=y/\0<=n/\x+n<=a.length/\y+n<=a.length) (λr=>Sb a r):=⟨λ⟨h0,h⟩=>by
 subst h0
 unfold va gZ
 refine z8 (z8 (xc (xp (P:=λr=>Sb a r) ?_ λr hr=>z8 (zd hr))))
 refine vY (λ(p,j,b)=>p=(0,a.length)/\0<=j/\j<=n/\Sb a b) (λ(_,j,_)=>(n-j).toNat) ⟨rfl,Z,Z,pq a⟩ ?_
 rintro⟨p,j,b⟩ ⟨rfl,hj,Oq,J⟩
 have B:=J.1
 unfold jG
 exact lW⟩
instance (d:Nat×Nat) (x m y:Int) (g:Int->Int->T Int) (a:List Int):Sp (jE d x m y g a) (d=(0,a.length)/\a.length<=1000/\0<=x/\x<m/\m<y/\y<=a.length) (λr=>Sb a r):=⟨λ⟨h0,h⟩=>by
 subst h0
 have L:∀ (i j:Int),Sp (kK m g ((0,a.length),(i,(j,a)))) (0<i/\i<=m/\0<j/\j+m<=a.length) (λr=>r.1=(0,a.length)/\Sb a r.2.2/\0<r.2.1/\r.2.1<=m/\r.2.1+m<=a.length):=λi j=>⟨λk=>by
  unfold kK
  refine vY (λ(p,i,j,b)=>p=(0,a.length)/\0<i/\i<=m/\0<j/\j+m<=a.length/\Sb a b) (λ(_,i,j,_)=>(i+j).toNat) ⟨rfl,k.1,k.2.1,k.2.2.1,k.2.2.2,pq a⟩ ?_
  rintro⟨p,i,j,b⟩ ⟨rfl,hi,YA,hj,Oq,J⟩
  clear k
  have B:=J.1
  unfold kL
  exact lW⟩
 unfold jE
 exact lW⟩
end
open T PL
section
variable (l:List vM)
instance (g:(Nat×Nat)->Int->Int->Int->(List vM)->(List Int)->T (List Int)) (f i j:Int) (d:Nat×Nat) (a:List Int):Sp (ui g f l (d,(i,(j,a)))) (d=(0,a.length)/\a.length<=1000/\ins l a/\0<=i/\i<=j/\j<=a.length/\0<=f/\f<a.length) (λr=>r.1=d/\i<=r.2.1/\r.2.1<=j/\r.2.2=a):=⟨λ⟨h0,h1,X,h3,h4,h5⟩=>by
 subst h0
 unfold ui
 refine vY (λ(p,x,y,b)=>p=(0,a.length)/\i<=x/\x<=y/\y<=j/\b=a) (λ(_,x,y,_)=>(y-x).toNat) ⟨rfl,Z,h4,Z,rfl⟩ ?_
 rintro⟨p,x,y,b⟩ ⟨rfl,U,hy,hj,rfl⟩
 have hm:=GN (x+y) (Z) (Z)
 have hw:q9 (x+y)=x+y:=qs (Z) (Z)
 have hn:∀ k:Nat,k<b.length->0<=wB b k (zb (.int .i64))/\wB b k (zb (.int .i64))<l.length:=λk hk=>US l b k X hk
 unfold uq
 clear X
 dsimp only
 rw[hw,hm]
 exact lW⟩
instance (g:(Nat×Nat)->Int->Int->Int->(List vM)->(List Int)->T (List Int)) (f i j:Int) (d:Nat×Nat) (a:List Int):Sp (uk g f l (d,(i,(j,a)))) (d=(0,a.length)/\a.length<=1000/\ins l a/\0<=i/\i<=j/\j<=a.length/\0<=f/\f<a.length) (λr=>r.1=d/\i<=r.2.1/\r.2.1<=j/\r.2.2=a):=⟨λ⟨h0,h1,X,h3,h4,h5⟩=>by
 subst h0
 unfold uk
 refine vY (λ(p,x,y,b)=>p=(0,a.length)/\i<=x/\x<=y/\y<=j/\b=a) (λ(_,x,y,_)=>(y-x).toNat) ⟨rfl,Z,h4,Z,rfl⟩ ?_
 rintro⟨p,x,y,b⟩ ⟨rfl,U,hy,hj,rfl⟩
 have hm:=GN (x+y) (Z) (Z)
 have hw:q9 (x+y)=x+y:=qs (Z) (Z)
 have hn:∀ k:Nat,k<b.length->0<=wB b k (zb (.int .i64))/\wB b k (zb (.int .i64))<l.length:=λk hk=>US l b k X hk
 unfold uu
 clear X
 dsimp only
 rw[hw,hm]
 exact lW⟩
instance (g:(Nat×Nat)->Int->Int->Int->(List vM)->(List Int)->T (List Int)) (x1 x2 x3 m n f i j:Int) (d:Nat×Nat) (a:List Int):Sp (uo g x1 x2 x3 l m n f (d,(i,(j,a)))) (d=(0,a.length)/\a.length<=1000/\ins l a/\0<=i/\i<=j/\j<=a.length/\j-1<=f/\f-i<a.length) (λr=>r.1=d/\i<=r.2.1/\r.2.1<=j/\r.2.2=a):=⟨λ⟨h0,h1,X,h3,h4,h5⟩=>by
 subst h0
 unfold uo
 refine vY (λ(p,x,y,b)=>p=(0,a.length)/\i<=x/\x<=y/\y<=j/\b=a) (λ(_,x,y,_)=>(y-x).toNat) ⟨rfl,Z,h4,Z,rfl⟩ ?_
 rintro⟨p,x,y,b⟩ ⟨rfl,U,hy,hj,rfl⟩
 have hm:=GN (x+y) (Z) (Z)
 have hw:q9 (x+y)=x+y:=qs (Z) (Z)
 have hn:∀ k:Nat,k<b.length->0<=wB b k (zb (.int .i64))/\wB b k (zb (.int .i64))<l.length:=λk hk=>US l b k X hk
 unfold uw
 clear X
 dsimp only
 rw[hw,hm]
 exact lW⟩
instance (g:(Nat×Nat)->Int->Int->Int->(List vM)->(List Int)->T (List Int)) (f i:Int) (d:Nat×Nat) (a:List Int):Sp (uj g f (d,(i,a))) (d=(0,a.length)/\a.length<=1000/\0<=i/\i<=a.length/\0<=f/\f<=a.length) (λr=>Sb a r):=⟨λ⟨h0,h⟩=>by
 subst h0
 unfold uj
 refine vY (λ(p,x,b)=>p=(0,a.length)/\i<=x/\x<=a.length/\Sb a b) (λ(_,x,_)=>(f-x).toNat) ⟨rfl,Z,Z,pq a⟩ ?_
 rintro⟨p,x,b⟩ ⟨rfl,U,hj,J⟩
 have B:=J.1
 unfold ur
 exact lW⟩
instance (g:(Nat×Nat)->Int->Int->Int->(List vM)->(List Int)->T (List Int)) (f i:Int) (d:Nat×Nat) (a:List Int):Sp (um g f (d,(i,a))) (d=(0,a.length)/\a.length<=1000/\0<=i/\i<a.length/\0<=f/\f<=a.length) (λr=>Sb a r):=⟨λ⟨h0,h⟩=>by
 subst h0
 unfold um
 refine vY (λ(p,x,b)=>p=(0,a.length)/\0<=x/\x<a.length/\Sb a b) (λ(_,x,_)=>(x-f).toNat) ⟨rfl,Z,Z,pq a⟩ ?_
 rintro⟨p,x,b⟩ ⟨rfl,U,hj,J⟩
 have B:=J.1
 unfold uv
 exact lW⟩
end
open T PL
section
variable (l:List vM)
instance (d:Nat×Nat) (x m y:Int) (a:List Int):Sp (vW d x m y l a) (d=(0,a.length)/\a.length<=1000/\ins l a/\0<=x/\x<m/\m<y/\y<=a.length) (λr=>Sb a r):=⟨λ⟨h0,h1,X,h3⟩=>by
 subst h0
 unfold vW
 refine sZ (x:=((0,a.length),x,m,y,l,a)) (σ:=(Nat×Nat)×Int×Int×Int×List vM×List Int) (ρ:=List Int) (λ(d,x,m,y,q,a)=>(d=(0,a.length)/\q=l)/\a.length<=1000/\ins l a/\0<=x/\x<m/\m<y/\y<=a.length) (λ(_,x,_,y,_)=>(y-x).toNat) (λ(_,_,_,_,_,a) r=>Sb a r) ?_ ?_ ⟨⟨rfl,rfl⟩,h1,X,h3⟩
 ·intro g g' hg z
  unfold vA ui uj uk um uo uq ur uu uv uw
  exact mono
 ·rename_i U
  clear U h1 X h3 x m y a
  rintro⟨d,x,m,y,q,a⟩ ⟨⟨rfl,rfl⟩,h1,X,h3,h4,h5,h6⟩ g hg
  dsimp only at h1 X h3 h4 h5 h6 hg ⊢
  unfold vA
  have hm:=GN (x+y) (Z) (Z)
  have hw:q9 (x+y)=x+y:=qs (Z) (Z)
  have H:∀ (d:Nat×Nat) (x' m' y':Int) (b:List Int),Sp (g (d,x',m',y',q,b)) (d=(0,a.length)/\Sb a b/\0<=x'/\x'<m'/\m'<y'/\y'<=a.length/\y'-x'<y-x) (λr=>Sb a r):=λd x' m' y' b=>⟨λ⟨k0,k1,k⟩=>xp (hg (d,x',m',y',q,b) ⟨⟨by rw[k0,k1.1],rfl⟩,by rw[k1.1]; exact h1,XH q a b k1 X,k.1,k.2.1,k.2.2.1,by rw[k1.1]; exact k.2.2.2.1⟩ (by show(y'-x').toNat<(y-x).toNat; omega)) λr hr=>zb8 a b r k1 hr⟩
  clear hg
  dsimp only
  rw[hw,hm]
  clear hm hw
  refine ze (λe => ?_) λe=>ze (λe' => ?_) λe' => ?_
  ·clear H; exact lW
  ·clear H; exact lW
  ·refine zi (qh) (z8 (z8 (za ?_ ?_)))
   ·clear H; cases J:decide ((x+y) / 2<m)<;>grind [jc,pq]
   ·rintro⟨p,i,b⟩ ⟨rfl,hi,hj,J⟩
    have J:b=a:=J
    subst J
    dsimp only at hi hj ⊢
    have YA:x<=i/\i<=(x+y) / 2+m-(x+y) / 2/\(x+y) / 2+m-i<=y/\(i<m/\m<(x+y) / 2+m-i->True):=by
     clear H
     cases J:decide ((x+y) / 2<m)<;>grind [jc]
    have hr:=pq b
    clear hi hj
    exact lW⟩
instance (d:Nat×Nat) (c:Int) (a:List Int):Sp (jF d c l a) (d=(0,a.length)/\a.length<=1000/\ins l a/\c=a.length) (λr=>Sb a r):=⟨λ⟨h0,h1,X,h3⟩=>by
 subst h0 h3
 have L0:∀ x y,Sp (kM (a.length:Int) l 20 ((0,a.length),(x,(y,a)))) (x=0/\y=20) (λr=>r.1=(0,a.length)/\0<=r.2.1/\r.2.1<=2000/\Sb a r.2.2):=λx y=>⟨λ⟨k,k'⟩=>by
  subst k k'
  unfold kM
  refine vY (λ(p,i,j,b)=>p=(0,a.length)/\0<=i/\i<=2000/\0<=j/\j<=2000/\Sb a b) (λ(_,_,j,_)=>(2000-j).toNat) ⟨rfl,qh,qh,qh,qh,pq a⟩ ?_
  rintro⟨p,i,j,b⟩ ⟨rfl,hi,YA,hj,Oq,J⟩
  have B:=J.1
  have K3:=XH l a b J X
  unfold kP
  exact lW⟩
 have L2:∀ s x y b,Sp (kO (a.length:Int) l s ((0,a.length),(x,(y,b)))) (x=0/\y=2*s/\0<s/\s<=2000/\Sb a b) (λr=>r.1=(0,a.length)/\0<=r.2.1/\r.2.1<=10000/\Sb a r.2.2):=λs x y b=>⟨λ⟨k,k',k1,k2,k3⟩=>by
  subst k k'
  unfold kO
  refine vY (λ(p,i,j,b)=>p=(0,a.length)/\0<=i/\i<=10000/\j=i+2*s/\j<=10000/\Sb a b) (λ(_,_,j,_)=>(10000-j).toNat) ⟨rfl,qh,qh,Z,Z,k3⟩ ?_
  rintro⟨p,i,j,b⟩ ⟨rfl,hi,YA,hj,Oq,J⟩
  have B:=J.1
  have K3:=XH l a b J X
  unfold kR
  clear k3
  exact lW⟩
 have L1:∀ d x b,Sp (kN (a.length:Int) l (d,(x,b))) (d=(0,a.length)/\x=20/\Sb a b) (λr=>Sb a r):=λd x b=>⟨λ⟨k0,k,k'⟩=>by
  subst k0 k
  unfold kN
  refine vY (λ(p,i,b)=>p=(0,a.length)/\0<i/\i<=4000/\Sb a b) (λ(_,i,_)=>(4000-i).toNat) ⟨rfl,qh,qh,k'⟩ ?_
  rintro⟨p,i,b⟩ ⟨rfl,hi,YA,J⟩
  have B:=J.1
  have K3:=λb J=>XH l a b J X
  unfold kQ
  clear k'
  exact lW⟩
 have K3:=λb J=>XH l a b J X
 have B:=λb=>z0W a b
 unfold jF
 exact lW⟩
instance (d:Nat×Nat) (a:List Int):Sp (uE d l a) (d=(0,a.length)/\a.length<=1000/\ins l a) (λr=>Sb a r):=⟨λh=>by
 unfold uE
 obtain⟨rfl,h⟩:=h
 exact lW⟩
end
open T PL
theorem zqB:∀ k:Nat,k<65->(nt (xo 1) (xo k)).wp λr=>r=(0,(k:Int)):=by
 unfold nt oJ
 intro k hk
 refine xc (zi (qh) (zi (qh) (zi (qh) (zi (qh) (zi (qh) (zd (zd ?_)))))))
 revert k
 decide +kernel
theorem zfg(k:Nat)(h:1<=k)(h':k<=64):(yC [-1] k).wp λr=>r=qL k (-1):=by
 unfold yC
 refine wz (qw) (xc (xp (zqB k (Z)) ?_))
 rintro _ rfl
 have e1:q9 (k:Int)=k:=qs (Z) (Z)
 dsimp only
 rw[e1,zL]
 refine wz (by simp; omega) (zi ⟨Z,Z,Z,Z⟩ (zi ⟨rfl,qw⟩ (uz (by simp[yE]; omega) (xc ?_))))
 refine xp (P:=λr=>r=qL k (-1)) ?_ λr hr=>zc (z8 (zd hr))
 unfold eO
 refine vY (σ:=Int×List Int) (λ(b,a)=>a.length=k/\1<=b/\b<=k/\∀ x∈a.take b.toNat,x = -1) (λ(b,_)=>k-b.toNat) ⟨by simp[yE]; omega,by simp[DO]; omega,by simp[DO]; omega,?_⟩ ?_
 ·have:DO k 1=1:=by unfold DO; omega
  simp only[List.length_singleton,this,yE]
  intro x U
  simpa[List.take_append,zF (show[(-1:Int)].length<=k by simpa using h)]using U
 rintro⟨b,a⟩ ⟨B,b0,b1,U⟩
 obtain⟨j,rfl⟩:=Y (show 0<=b by omega)
 unfold gH
 dsimp only
 simp only[zL,Int.toNat_zero,Nat.zero_add,Nat.sub_zero,List.drop_zero]at U ⊢
 refine ze (λe => ?_) λe => ?_
 ·have e:=uC e
  have ha:(yE j (a.length-j) a (a.take j)).length=a.length:=by unfold yE; simp; omega
  have hm:DO (a.length-j) (a.take j).length=min (a.length-j) j:=by unfold DO; rw[List.length_take]; omega
  have hw:q9 ((j:Int)+(DO (a.length-j) (a.take j).length:Nat))=((j+min (a.length-j) j:Nat):Int):=by rw[hm,qs (Z) (Z)]; omega
  refine zi ⟨Z,Z,Z⟩ (zi ⟨Z,Z,Z⟩ (z8 (zi ⟨rfl,Z⟩ (uz ha.symm (zd ?_)))))
  rw[hw]
  refine⟨⟨ha.trans B,Z,Z,λx HQ => ?_⟩,by simp only[zL]; omega⟩
  rw[zL]at HQ
  have:x∈a.take j:=by
   unfold yE at HQ
   rw[zX (by simp; omega)]at HQ
   rcases zG.1 (zQ HQ)with k | k
   ·exact k
   ·exact zQ k
  exact U x this
 ·have e:=ga e
  refine zc (z8 (zd ?_))
  rw[zF (Z)]at U
  exact List.eq_replicate_iff.2 ⟨B,U⟩
instance (t:Term) (v:Int):Sp (cy t v) True (λr=>r=true↔t.1=v):=⟨λ_=>by unfold cy; exact zd (qw)⟩
instance (c:vM) (v:Int):Sp (Wp c v) (c.2.1.length<=1000) (λr=>r=true↔v∈vs c):=⟨λh=>by
 unfold Wp
 refine za ⟨Z,λ_ _=>trivial⟩ λr hr=>zd ?_
 rw[iW]
 rcases hr with⟨rfl,k⟩ | ⟨rfl,x,U,k⟩
 ·exact⟨nofun,λ⟨t,ht,e⟩=>(k t ht).2 e⟩
 ·exact⟨λ_=>⟨x,U,k.1 rfl⟩,λ_=>rfl⟩⟩
def Cw(l:List vM):Prop:=l.length<=1000/\∀ c∈l,cw c
instance (l:List vM) (o:List Int) (n:Int):Sp (bJ l o n) (Cw l/\o.length<=1000000) (λr=>match r with | .inl (e,f,x,y)=>f=(l,())/\x=o/\(e=true->∃ k:Nat,n=k/\Ch k l o y) | .inr e=>e=false):=⟨λ⟨h,ho⟩=>by
 unfold bJ
 refine ze (λ_=>zd rfl) λe => ?_
 simp only[Bool.or_eq_false_iff,decide_eq_false_iff_not,bne_eq_false_iff_eq]at e
 obtain⟨k,rfl⟩:=Y (show 0<=n by omega)
 refine za (Z) λo' e1 => ?_
 have e1:o'=o:=e1
 subst o'
 refine xc (xp (zfg k (Z) (Z)) λ_ e1 => ?_)
 subst e1
 refine z8 (z8 (zc (zc (xc ?_))))
 refine xp (P:=λz=>match z with | .inl (x,y,f)=>f=(l,())/\x=o/\((k:Int)=k/\(∀ c∈l,(dB c k).run=some true)/\y.length=k/\(∀ i:Int,0<=i->i<l.length->nth o i di = -1\/(nth o i di∈vs (nth l i (zb zq))/\nth y (nth o i di) di=i))/\∀ v:Int,0<=v->v<k->nth y v di = -1\/(0<=nth y v di/\nth y v di<l.length/\nth o (nth y v di) di=v)) | .inr (e,_)=>e=false) ?_ ?_
 ·unfold tv
  refine vY (σ:=Int×List Int×List Int×List vM×Unit) (λ(d,x,y,f)=>f=(l,())/\x=o/\0<=d/\d<=l.length/\(∀ i:Int,0<=i->i<d->(dB (nth l i (zb zq)) k).run=some true)/\y.length=k/\(∀ i:Int,0<=i->i<d->nth o i di = -1\/(nth o i di∈vs (nth l i (zb zq))/\nth y (nth o i di) di=i))/\∀ v:Int,0<=v->v<k->nth y v di = -1\/(0<=nth y v di/\nth y v di<d/\nth o (nth y v di) di=v))
   (λ(d,_)=>(l.length-d).toNat) ⟨rfl,rfl,Z,Z,Z,qw,Z,λv v0 v1=>.inl ?_⟩ ?_
  ·unfold nth
   rw[zA,List.getElem?_replicate,if_pos (Z)]; rfl
  rintro⟨d,x,y,f⟩ ⟨rfl,rfl,d0,d1,hA,hy,hoc,hbc⟩
  unfold iD
  simp only[sB]
  refine ze (λV => ?_) λV => ?_
  ·have V:=uC V
   have hw:q9 (d+1)=d+1:=qs (Z) (by have:=h.1; omega)
   have hcw:=h.2 _ (xj (d:=zb zq) d0 V)
   refine qo ⟨d0,V⟩ (xc ?_)
   obtain⟨r,hr,hV⟩:=T.fK.1 (Sp.sp (t:=dB (nth l d (zb zq)) k) ⟨Z,hcw.1,hcw.2.1,by have:=hcw.2.2; omega⟩)
   refine gI hr (ze (λe=>z8 (z8 (zc (zc (zd rfl))))) λe => ?_)
   have hrt:r=true:=by simpa using e
   subst hrt
   have hV:=hV rfl
   have hA':∀ i:Int,0<=i->i<d+1->(dB (nth l i (zb zq)) k).run=some true:=λi i0 i1=>by
    by_cases e:i=d
    ·rw[e]; exact hr
    ·exact hA i i0 (Z)
   refine qo ⟨d0,Z⟩ (ze (λe => ?_) λe => ?_)
   ·have e:nth x d di = -1:=by simpa using e
    refine z8 (z8 (zc (zc (zd ?_))))
    rw[hw]
    refine⟨⟨rfl,rfl,Z,Z,hA',hy,λi i0 i1 => ?_,λv v0 v1=>(hbc v v0 v1).imp_right λ⟨a,b,c⟩=>⟨a,Int.lt_trans b (Int.lt_succ d),c⟩⟩,by simp only; omega⟩
    by_cases e':i=d
    ·rw[e']; exact .inl e
    ·exact hoc i i0 (Z)
   ·have e:nth x d di ≠ -1:=by simpa using e
    refine xc (xp (P:=λz=>z.2=(x,y,(l,()),nth l d (zb zq))/\(z.1=false->nth x d di∈vs (nth l d (zb zq))/\nth y (nth x d di) di = -1)) ?_ ?_)
    ·refine za (by exact hcw.2.2) λb J=>ze (λe=>z8 (z8 (zc (zc (zd ⟨rfl,nofun⟩))))) λe => ?_
     have J:=J.1 (by simpa using e)
     obtain⟨t,ht,et⟩:=iW.1 J
     have hv:=hV.2.2 t ht
     rw[et]at hv
     have hv1:nth x d di<y.length:=by rw[hy]; exact hv.2
     have hv0:0<=nth x d di:=hv.1
     have HP:0+(nth x d di).toNat<y.length:=Z
     exact qo ⟨hv0,hv1⟩ (zi ⟨rfl,HP⟩ (z8 (z8 (zc (zc (zd ⟨rfl,λq=>⟨J,by simpa using q⟩⟩))))))
    ·rintro⟨b,_⟩ ⟨rfl,J⟩
     refine ze (λ_=>z8 (z8 (zc (zc (zd rfl))))) λe' => ?_
     obtain⟨J,Yi⟩:=J e'
     obtain⟨t,ht,et⟩:=iW.1 J
     have hv:=hV.2.2 t ht
     rw[et]at hv
     have hv0:0<=nth x d di:=hv.1
     have hv1:nth x d di<y.length:=by rw[hy]; exact hv.2
     have HP:0+(nth x d di).toNat<y.length:=Z
     refine qo ⟨hv0,hv1⟩ (zi ⟨rfl,HP⟩ (z8 (zi (by rw[List.length_set]) (zc (zi ⟨by rw[List.length_set],rfl,by rw[List.length_set]⟩ (zd ?_))))))
     rw[hw]
     have ud:∀ v:Int,0<=v->nth (y.set (0+(nth x d di).toNat) d) v di=if v=nth x d di then d else nth y v di:=λv v0=>VX hv0 hv1 v0
     refine⟨⟨rfl,rfl,Z,Z,hA',by rw[List.length_set]; exact hy,λi i0 i1 => ?_,λv v0 v1 => ?_⟩,by simp only; omega⟩
     ·by_cases e':i=d
      ·refine .inr ?_
       rw[e']
       exact⟨J,(ud _ hv0).trans (if_pos rfl)⟩
      ·refine(hoc i i0 (Z)).imp_right λ⟨a,c⟩=>⟨a,?_⟩
       obtain⟨t',ht',et'⟩:=iW.1 a
       have hV':=Ue (Sp.sp (t:=dB (nth l i (zb zq)) k) (by
        have hcw:=h.2 _ (xj (l:=l) (i:=i) (d:=zb zq) i0 (Z))
        exact⟨Z,hcw.1,hcw.2.1,by have:=hcw.2.2; omega⟩)) (hA i i0 (Z)) rfl
       have h0:=(hV'.2.2 t' ht').1
       rw[et']at h0
       refine(ud _ h0).trans ?_
       rw[if_neg]
       ·exact c
       ·intro q; rw[q,Yi]at c; omega
     ·have:=ud v v0
      by_cases e':v=nth x d di
      ·rw[if_pos e']at this
       refine .inr ?_
       rw[this]; exact⟨d0,Z,e'.symm⟩
      ·rw[if_neg e']at this
       rw[this]
       exact(hbc v v0 v1).imp_right λ⟨a,b,c⟩=>⟨a,Z,c⟩
  ·have V:=ga V
   have FM:d=l.length:=Z
   subst FM
   refine z8 (z8 (zc (zc (zd ⟨rfl,rfl,trivial,λc hc => ?_,hy,hoc,hbc⟩))))
   obtain⟨i,hi,rfl⟩:=zY hc
   have:=hA i (Z) (Z)
   simpa[nth,hi]using this
 ·rintro(⟨x,y,f⟩ | ⟨b,_⟩) hz
  ·obtain⟨rfl,rfl,_,hA,hy,hoc,hbc⟩:=hz
   have hAc:Ac k l:=⟨h.1,λc hc=>⟨h.2 c hc,hA c hc⟩⟩
   refine za ⟨Z,Z,hAc⟩ λr hr=>zc (zc (z8 (z8 (zd ⟨rfl,rfl,λe=>⟨k,rfl,hAc,Z,Z,hr e,Z,hy,hoc,hbc⟩⟩))))
  ·exact zd hz⟩
open T PL
instance (a b:List Int):Sp (yj a b) (a.length<=1000000) (λr=>r=false->a≠b):=⟨λh=>by
 unfold yj lM
 refine ze (λe=>zd λ_ k=>by rw[k]at e; simp at e) λe => ?_
 have e:(a.length:Int)=b.length:=by simpa using e
 refine xc (xp (P:=λz=>z.elim (λ_=>True) λr=>r=false->a≠b) ?_ λz hz => ?_)
 ·refine vY (σ:=Int) (λi=>0<=i/\i<=a.length) (λi=>(a.length-i).toNat) ⟨Z,Z⟩ λi hi => ?_
  unfold cG
  refine ze (λV => ?_) λV=>zd trivial
  have V:=uC V
  have hw:q9 (i+1)=i+1:=qs (Z) (Z)
  refine qo ⟨hi.1,V⟩ (qo ⟨hi.1,Z⟩ (ze (λk=>zd λ_ q => ?_) λk=>zd ?_))
  ·rw[q]at k; simp at k
  ·rw[hw]; exact⟨⟨Z,Z⟩,Z⟩
 ·rcases z with z | z
  ·exact zd nofun
  ·exact zd hz⟩
theorem dh{α:Type}(a:List α):List.drop 0 (List.take (0+a.length) a)=a:=qw
instance (l:List vM) (o:List Int) (n:Int):Sp (pB l o n) (Cw l/\o.length<=1000000) (λr=>(r.2=false->r.1=o)/\(r.2=true->∃ (k:Nat) (y:List Int),n=k/\Ch k l r.1 y)):=⟨λ⟨h,ho⟩=>by
 unfold pB
 have zgJ:=h.1
 refine za ⟨h,ho⟩ λz hz => ?_
 rcases z with⟨e,f,x,y⟩ | e
 ·obtain⟨rfl,rfl,hC0⟩:=hz
  refine ze (λk=>za (Z) λr hr=>zd ⟨λ_=>hr,nofun⟩) λk => ?_
  obtain⟨n,rfl,hC⟩:=hC0 (by simpa using k)
  clear hC0
  refine zi ⟨rfl,rfl,rfl⟩ (zc (zc (z8 (z8 (zi rfl (xc (xp (P:=λz=>∃ a,z=((l,()),x,y,a)/\ins l a/\a.length<=1000) ?_ ?_)))))))
  ·unfold QU
   refine vY (σ:=Int×(List vM×Unit)×List Int×List Int×List Int) (λ(d,p,b,c,a)=>(p=(l,())/\b=x/\c=y)/\0<=d/\d<=l.length/\a.length=d.toNat/\ins l a) (λ(d,_)=>(l.length-d).toNat) ⟨⟨rfl,rfl,rfl⟩,Z,Z,rfl,nofun⟩ ?_
   rintro⟨d,p,b,c,a⟩ ⟨⟨rfl,rfl,rfl⟩,d0,d1,B,hi⟩
   unfold ow
   refine ze (λV => ?_) λV => ?_
   ·have V:=uC V
    have hw:q9 (d+1)=d+1:=qs (Z) (Z)
    refine vS (Z) (zi ⟨qw,rfl,qw⟩ (zc (zc (z8 (z8 (zi (qw) (zd ?_)))))))
    rw[hw]
    refine⟨⟨⟨rfl,rfl,rfl⟩,Z,Z,?_,λu hu => ?_⟩,by simp only; omega⟩
    ·show(a++[d]).length=(d+1).toNat
     rw[List.length_append,List.length_singleton]; omega
    ·rcases zG.1 hu with hu | hu
     ·exact hi u hu
     ·rw[I.1 hu]; exact⟨d0,V⟩
   ·exact zc (zc (zc (z8 (z8 (z8 (zd ⟨a,rfl,hi,Z⟩))))))
  ·rintro _ ⟨a,rfl,hi,Yh⟩
   refine z8 (z8 (za ⟨rfl,Yh,hi⟩ λg hg => ?_))
   have hg1:=hg.1
   refine zi ⟨hg1.symm,rfl,hg1.symm⟩ (zc (zc (z8 (z8 (z8 (xc (xp (P:=λz=>∃ o b:List Int,z=((l,()),o,b,g)/\Ch n l o b) ?_ ?_)))))))
   ·have hgi:=XH l a g hg hi
    have hB:=z4E l
    have hV:∀ c∈l,0<=c.1/\c.1<=4:=λc hc=>by have:=hC.ac.vc (by have:=hC.n64; omega) hc; exact⟨this.1,this.2.1⟩
    unfold QV
    refine vY (σ:=(List Int×Bool)×(List vM×Unit)×List Int×List Int×List Int) (λ(_,p,o,b,a)=>p=(l,())/\a=g/\Ch n l o b) (λ(q,_,o,_,_)=>2*(5*l.length-td l o).toNat+if q.2=true/\q.1=o then 0 else 1) ⟨rfl,rfl,hC⟩ ?_
    rintro⟨q,p,o,b,a⟩ ⟨rfl,rfl,hC'⟩
    unfold ox
    have hol:=hC'.ol
    refine xc (xp (P:=λz=>∃ w:Bool,z=(w,(l,()),o,b,a)/\(w=true->¬ (q.2=true/\q.1=o))) ?_ ?_)
    ·refine ze (λk=>zc (zc (zc (z8 (z8 (z8 (zd ⟨true,rfl,λ_ k' => ?_⟩))))))) λk=>z8 (xc ?_)
     ·rw[k'.1]at k; cases k
     ·rw[dh]
      by_cases hq:q.1.length=o.length
      ·exact vE (Z) λw hw=>zc (zc (zc (z8 (z8 (z8 (zd ⟨!w,rfl,λe k'=>hw (by simpa using e) k'.2⟩))))))
      ·unfold yj
       exact vD (by rw[bne_iff_ne]; omega) (zd (zc (zc (zc (z8 (z8 (z8 (zd ⟨true,rfl,λ_ k'=>hq (by rw[k'.2])⟩))))))))
    ·rintro _ ⟨w,rfl,hw⟩
     dsimp only
     refine ze (λk => ?_) λk=>zc (zc (z8 (z8 (z8 (zd ⟨o,b,rfl,hC'⟩)))))
     rw[dh]
     refine z8 (zi (Z) (zc (zc (zc (zc (z8 (z8 (z8 (xc (xp (P:=λz=>∃ o' b':List Int,z=((l,()),o',b',a)/\Ch n l o' b'/\(o'=o/\b'=b\/td l o<td l o')) ?_ ?_))))))))))
     ·unfold QW
      refine vY (σ:=Int×(List vM×Unit)×List Int×List Int×List Int) (λ(d,p,o',b',a')=>(p=(l,())/\a'=a)/\0<=d/\d<=a.length/\Ch n l o' b'/\(o'=o/\b'=b\/td l o<td l o')) (λ(d,_)=>(a.length-d).toNat) ⟨⟨rfl,rfl⟩,Z,Z,hC',.inl ⟨rfl,rfl⟩⟩ ?_
      rintro⟨d,p,o',b',a'⟩ ⟨⟨rfl,rfl⟩,d0,d1,hC2,hp⟩
      unfold oy
      simp only[sB]
      refine ze (λV => ?_) λV=>zc (zc (zc (z8 (z8 (z8 (zd ⟨o',b',rfl,hC2,hp⟩))))))
      have V:=uC V
      have hw:q9 (d+1)=d+1:=qs (Z) (Z)
      have he:=hgi _ (xj (d:=di) d0 V)
      have he0:0<=nth a' d di:=he.1
      have he1:nth a' d di<l.length:=he.2
      have zvr:=hC2.ol
      have he2:nth a' d di<o'.length:=Z
      have he3:0+(nth a' d di).toNat<o'.length:=Z
      refine qo ⟨d0,V⟩ (zi ⟨rfl,Z⟩ (qo ⟨he0,he2⟩ (zi ⟨rfl,he3⟩ (ze (λe => ?_) λe => ?_))))
      ·have e:nth o' (nth a' d di) di = -1:=by simpa using e
       refine zc (zc (z8 (z8 (xc (xp (zd5 hC2 ⟨he0,he1⟩ e) ?_)))))
       rintro⟨p,o2,b2⟩ ⟨rfl,hC3,hp3⟩
       refine zc (zc (zc (zc (z8 (z8 (z8 (zd ?_)))))))
       rw[hw]
       refine⟨⟨⟨rfl,rfl⟩,Z,Z,hC3,?_⟩,by simp only; omega⟩
       have hp3:o2=o'/\b2=b'\/td l o'<td l o2:=hp3
       show o2=o/\b2=b\/td l o<td l o2
       rcases hp3 with⟨rfl,rfl⟩ | k
       ·exact hp
       ·rcases hp with⟨rfl,rfl⟩ | k'
        ·exact .inr k
        ·exact .inr (Int.lt_trans k' k)
      ·refine zc (zc (zc (zc (z8 (z8 (z8 (zd ?_)))))))
       rw[hw]
       exact⟨⟨⟨rfl,rfl⟩,Z,Z,hC2,hp⟩,by simp only; omega⟩
     ·rintro _ ⟨o',b',rfl,hC2,hp⟩
      refine zc (zc (zc (z8 (z8 (z8 (zd ⟨⟨rfl,rfl,hC2⟩,?_⟩))))))
      have h1:=hB o hV
      have X:=hB o' hV
      show 2*(5*l.length-td l o').toNat+(if true=true/\o=o' then 0 else 1)<2*(5*l.length-td l o).toNat+(if q.2=true/\q.1=o then 0 else 1)
      rw[if_neg (hw k)]
      rcases hp with⟨rfl,_⟩ | k'
      ·rw[if_pos ⟨rfl,rfl⟩]; omega
      ·split<;>omega
   ·rintro _ ⟨o,b,rfl,hC'⟩
    dsimp only
    rw[dh]
    exact z8 (zd ⟨nofun,λ_=>⟨n,b,rfl,hC'⟩⟩)
 ·have hz:e=false:=hz
  subst hz
  exact vD rfl (za (Z) λr hr=>zd ⟨λ_=>hr,nofun⟩)⟩
instance (l:List vM) (o:List Int) (n:Int):Sp (Zg l o n) (Cw l/\o.length<=1000000) (λr=>r=true->∃ (k:Nat) (y:List Int),n=k/\Ch k l o y):=⟨λh=>by
 unfold Zg
 refine za h λz hz => ?_
 rcases z with⟨e,f,x,y⟩ | e
 ·exact zd λk=>by obtain⟨m,h1,X⟩:=hz.2.2 k; exact⟨m,y,h1,X⟩
 ·exact zd λk=>by rw[hz]at k; cases k⟩
instance (l:List vM) (o:List Int) (n i:Int):Sp (nf l o n i) (Cw l/\o.length<=1000000) (λ_=>True):=⟨λh=>by
 unfold nf
 refine za h λz hz => ?_
 rcases z with⟨e,f,x,y⟩ | e
 ·obtain⟨rfl,rfl,hC0⟩:=hz
  refine ze (λk => ?_) λ_=>zd trivial
  obtain⟨n,rfl,hC⟩:=hC0 k
  clear hC0
  refine ze (λi0=>ze (λi1 => ?_) λ_=>zd trivial) λ_=>zd trivial
  have i0:=uC i0
  have i1:=uC i1
  have hol:=hC.ol
  refine qo ⟨i0,Z⟩ (zi ⟨rfl,Z⟩ (ze (λ_=>zc (zc (z8 (z8 (xc ?_))))) λ_=>zd trivial))
  refine xp (P:=λ_=>True) ?_ λ_ _=>zd trivial
  unfold bj dq
  refine qo ⟨i0,i1⟩ (qo ⟨i0,i1⟩ (zc (zc (z8 (z8 (xc ?_))))))
  refine xp (P:=λ_=>True) ?_ λ_ _=>zc (zc (z8 (z8 (zd trivial))))
  obtain⟨S,hS⟩:=hC.sg
  obtain⟨rk,hl,_,hr⟩:=hC.rk
  have hvr:=λt ht=>hC.vr i0 i1 (v:=t) ht
  have hlen:(nth l i (zb zq)).2.1.length<=1000:=(hC.ac.2 _ (xj i0 i1)).1.2.2
  dsimp only
  generalize nth l i (zb zq)=c at *
  refine vY (σ:=Int×Int×Int×(List vM×Unit)×List Int×List Int) (λ(_,_,d,p,a,b)=>(p=(l,())/\a=x/\b=y)/\0<=d/\d<=c.2.1.length) (λ(_,_,d,_)=>(c.2.1.length-d).toNat) ⟨⟨rfl,rfl,rfl⟩,Z,Z⟩ ?_
  rintro⟨p,q,d,w,a,b⟩ ⟨⟨rfl,rfl,rfl⟩,d0,d1⟩
  unfold yp
  refine ze (λV => ?_) λ_=>zc (zc (z8 (z8 (zd trivial))))
  have V:=uC V
  have hw:q9 (d+1)=d+1:=qs (Z) (Z)
  have htr:=hvr _ (iW.2 ⟨_,xj (d:=zb qk) d0 V,rfl⟩)
  have hn:=hC.n64
  refine qo ⟨d0,V⟩ (zc (zc (z8 (z8 (xc (xp (CF hC hS hr _ htr) ?_))))))
  rintro _ rfl
  refine zi (zch (zO (qh) htr.1) (zO (qF htr.2) (Z))) (ze (λ_=>zc (zc (z8 (z8 (zd ?_))))) λ_=>zc (zc (z8 (z8 (zd ?_)))))
  all_goals
   rw[hw]
   exact⟨⟨⟨rfl,rfl,rfl⟩,Z,Z⟩,by simp only; omega⟩
 ·have hz:e=false:=hz
  subst hz
  exact wz rfl (zd trivial)⟩
open T PL
theorem zcQ{n:Int}{l:List vM}(h:Ac n l)(h0:0<=n)(hn:n<=64){c:vM}(hc:c∈l):(c.2.1.length:Int)<=n:=by
 obtain⟨h1,X⟩:=h.2 c hc
 have hV:=h.vc hn hc
 have B:=h1.2.2
 have hA:∀ x∈c.2.1,rg x.2.1/\rl x.2.1<=1000000:=λx U=>⟨h1.1.1 x U,by have:=Wd U; have:=h1.2.1; unfold cb at this; omega⟩
 have hK:rg c.2.2.1/\rl c.2.2.1<=1000000:=⟨h1.1.2,by have:=Fg c; have:=h1.2.1; omega⟩
 have L:∀ s,Sp (Za n c.2.1 (c.2.1.length:Int) s) (s=(0,0)) (λr=>match r with | .inl _=>(c.2.1.length:Int)<=n | .inr b=>b=false):=λs=>⟨λhs=>by
  unfold Za
  refine cJ c.2.1 (zb qk) (λ(_,i)=>i) (λx=>(rg x.2.1/\rl x.2.1<=1000000)/\0<=x.1/\x.1<n) (λ_=>True) (λ(g,i)=>i<=g/\g<=n) (λx U=>⟨hA x U,hV.2.2 x U⟩) (by subst hs; exact⟨rfl,qJ _,h0⟩) (λ⟨g,i⟩ x hj U he i0 hi => ?_) λ⟨g,i⟩ hj he _ => ?_
  ·dsimp only at *
   unfold r8
   dsimp only
   rw[he]
   clear he hA hK hV
   exact gog
  ·dsimp only at *
   unfold r8
   clear h1 hA hK hV
   exact gog⟩
 refine Ue (t:=dB c n) (Q:=λr=>r=true->(c.2.1.length:Int)<=n) ?_ X rfl
 unfold dB
 clear hA hV h1 X h
 exact gog
instance (b:List Int) (c:Int):Sp (jB b c) (b.length<=1000000) (λ_=>True):=⟨λh=>by
 have L:Sp (yA b c (b.length:Int) 0) True (λ_=>True):=⟨λ_=>by
  unfold yA
  refine vY (σ:=Int) (λi=>0<=i/\i<=b.length) (λi=>(b.length-i).toNat) ⟨Z,Z⟩ λi hi => ?_
  unfold yB
  exact lW⟩
 unfold jB uM
 exact lW⟩
instance (b:Term) (c:List Int) (d:Int) (a:List Int):Sp (dv b c d a) (0<=d/\d<c.length/\a.length<=1000000) (λr=>r.2=a):=⟨λh=>by
 unfold dv
 rw[dh]
 exact lW⟩
instance (d:List Term) (e:List Int×Int×Unit) (c:List Int):Sp (wI d e c) (0<=e.2.1/\e.2.1<e.1.length/\c.length<=1000000/\d.length<=1000000) (λr=>r.2=c):=⟨λh=>by
 obtain⟨e1,e2,e3⟩:=e
 have L:Sp (vq d (d.length:Int) ((e1,e2,()),0,c)) True (λr=>match r with | .inl a=>a=c | .inr z=>z.2=c):=⟨λ_=>by
  unfold vq
  refine vY (σ:=(List Int×Int×Unit)×Int×List Int) (λ(p,i,b)=>(p=(e1,e2,())/\b=c)/\0<=i/\i<=d.length) (λ(_,i,_)=>(d.length-i).toNat) ⟨⟨rfl,rfl⟩,Z,Z⟩ ?_
  rintro⟨p,i,b⟩ ⟨⟨rfl,rfl⟩,i0,i1⟩
  unfold vt
  exact lW⟩
 unfold wI vR
 exact lW⟩
instance (b:Int) (d:List vM) (f a:List Int):Sp (lG b d f a) ((0<=b/\b<a.length/\b<d.length/\b<f.length/\a.length<=1000000)/\∀ c∈d,c.2.1.length<=1000) (λr=>r.2=a/\(r.1=true->nth a b di ≠ -1)):=⟨λ⟨h,hc⟩=>by
 have hc:=hc _ (xj (d:=zb zq) h.1 h.2.2.1)
 unfold lG
 simp only[sB]
 exact lW⟩
def cn(e:List Int):Nat:=e.countP λx=>x != -1
theorem zd0{e:List Int}{c:Int}(h0:0<=c)(h1:c<e.length)(h:nth e c di ≠ -1):cn (e.set (0+c.toNat) (-1))+1=cn e:=by
 have hc:0+c.toNat<e.length:=Z
 have e1:e[0+c.toNat]=nth e c di:=by unfold nth; rw[zA]; simp[show c.toNat<e.length by omega]
 have hm:0<e.countP λx=>x != -1:=List.countP_pos_iff.2 ⟨e[0+c.toNat],zN hc,by rw[e1]; simpa using h⟩
 unfold cn
 rw[List.countP_set hc,e1,if_pos (by simpa using h),if_neg (qh)]
 omega
instance (l:List vM) (o:List Int) (n:Int):Sp (WS l o n) (Cw l/\o.length<=1000000) (λr=>(∀ i:Int,i∈r->(0<=i/\i<l.length)/\0<=nth o i di/\nth o i di<n)/\r.length<=1000):=⟨λ⟨h,ho⟩=>by
 unfold WS
 refine za ⟨h,ho⟩ λz hz=>ze (λ_=>zd ⟨nofun,qh⟩) λk => ?_
 obtain⟨n,y,rfl,hC⟩:=hz (by simpa using k)
 refine za (Z) λo' e1 => ?_
 have e1:o'=o:=e1
 subst o'
 have hol:=hC.ol
 have B:=h.1
 refine zi ⟨rfl,rfl,rfl⟩ (zc (z8 (zi rfl (xc (xp (P:=λz=>(∀ i:Int,i∈z.2->(0<=i/\i<l.length)/\0<=nth o i di/\nth o i di<n)/\z.2.length<=1000) ?_ λ⟨g,b⟩ hz=>z8 (zd (by rw[dh]; exact hz)))))))
 unfold Jr
 refine vY (σ:=(List vM×List Int×Unit)×Int×List Int×List Int) (λ(p,c,e,a)=>p=(l,o,())/\0<=c/\c<=l.length/\e.length=l.length/\(∀ i:Int,0<=i->i<l.length->nth e i di = -1\/nth e i di=nth o i di)/\a.length+cn e<=1000/\∀ i:Int,i∈a->(0<=i/\i<l.length)/\0<=nth o i di/\nth o i di<n) (λ(_,c,e,_)=>cn e*2000+(l.length-c).toNat)
  ⟨rfl,Z,Z,hol,λi _ _=>.inr rfl,?_,nofun⟩ ?_
 ·have:cn o<=o.length:=qH
  simp only[List.length_nil]; omega
 rintro⟨p,c,e,a⟩ ⟨rfl,c0,c1,he,hi,ha,hA⟩
 unfold Qy
 refine ze (λV => ?_) λV=>zc (zc (z8 (z8 (zd ⟨hA,by show a.length<=1000; omega⟩))))
 have V:=uC V
 have hw:q9 (c+1)=c+1:=qs (Z) (Z)
 have hco:c<o.length:=Z
 refine zc (z8 (za ⟨⟨c0,Z,V,hco,Z⟩,λc hc=>(h.2 c hc).2.2⟩ λ⟨f,b⟩ hf => ?_))
 have J:b=e:=hf.1
 subst J
 refine ze (λk=>zc (zc (z8 (z8 (zd ?_))))) λk => ?_
 ·rw[hw]
  exact⟨⟨rfl,Z,Z,he,hi,ha,hA⟩,by simp only; omega⟩
 ·have ku:nth b c di ≠ -1:=hf.2 (by simpa using k)
  have hcn:=zd0 c0 (Z) ku
  have ud:∀ v:Int,0<=v->nth (b.set (0+c.toNat) (-1)) v di=if v=c then -1 else nth b v di:=λv v0=>VX c0 (Z) v0
  refine qo ⟨c0,Z⟩ (zi ⟨rfl,Z⟩ (vS (Z) (zi ⟨qw,rfl,qw⟩ (uz (qw) (zi (qw) (zd ?_))))))
  refine⟨⟨rfl,qh,Z,by rw[List.length_set]; exact he,λi i0 i1 => ?_,?_,λi YA => ?_⟩,?_⟩
  ·rw[ud i i0]
   split
   ·exact .inl rfl
   ·exact hi i i0 i1
  ·show(a++[c]).length+cn (b.set (0+c.toNat) (-1))<=1000
   rw[List.length_append,List.length_singleton]; omega
  ·rcases zG.1 YA with q | q
   ·exact hA i q
   ·rw[I.1 q]
    have ho:=(hi c c0 V).resolve_left ku
    have hm:=((hC.oc c c0 V).resolve_left (λq=>ku (ho.trans q))).1
    exact⟨⟨c0,V⟩,hC.vr c0 V hm⟩
  ·show cn (b.set (0+c.toNat) (-1))*2000+(l.length-(0:Int)).toNat<cn b*2000+(l.length-c).toNat
   omega⟩
open T PL
instance (priority:=high) divS (a b:Lf.Rat):Sp (tL a b) (rg a/\rg b/\rl a+rl b<=10000000) (λr=>rg r.1/\rl r.1<=rl a+rl b+4/\(nm r.1\/rl r.1<=2)):=⟨λh=>by unfold tL; exact gor⟩
theorem S9(l:List Lf.Rat)(i:Nat)(h:rs l)(hi:i<l.length):rg (wB l i (zb zm))/\rl (wB l i (zb zm))<=1700:=by
 have e:wB l i (zb zm)∈l:=by unfold wB; rw[zA,zH hi]; exact zN hi
 exact h.2 _ e
theorem Ec(l:List Lf.Rat)(i:Nat)(x:Lf.Rat)(h:rs l)(U:rg x)(B:rl x<=1700):rs (l.set i x):=⟨by simpa using h.1,λy hy=>by
 rcases zJ hy with k | rfl
 ·exact h.2 y k
 ·exact⟨U,B⟩⟩
theorem z4U(l:List Lf.Rat)(x:Lf.Rat)(h:rs l)(U:rg x)(B:rl x<=1700)(hn:l.length<1000000000):rs (l++[x]):=⟨by simp; omega,jl h.2 ⟨U,B⟩⟩
theorem Nh:rs []:=⟨qw,nofun⟩
theorem csw{l:List vM}(h:Uy l):Cw l:=⟨h.1,λc hc=>⟨(h.2 c hc).1,by have:=(h.2 c hc).2.1; omega,by have:=(h.2 c hc).2.2; omega⟩⟩
theorem zc1(x:Lf.Rat)(h:nm x\/rl x<=2)(k:rl (norm x)<=16):rl x<=1700:=by
 rcases h with h | h
 ·rw[<- show norm x=x from h]; omega
 ·omega
theorem gov{p:Prop} (h:p:=by
 intros
 repeat' (with_reducible first
  | refine zd ?_
  | refine ze (λ_ => ?_) (λ_ => ?_)
  | refine z8 ?_
  | refine zc ?_
  | refine uz ?_ ?_
  | refine qo ?_ ?_
  | refine vS ?_ ?_
  | refine wJ ?_ ?_
  | refine zi ?_ ?_
  | refine vX (λ_ _ => ?_) (λ_ _ => ?_)
  | refine za ?_ (λ_ _ => ?_)
  | refine vE ?_ (λ_ _ => ?_)
  | refine xc ?_
  | dsimp only)
 all_goals grind [xe,j6,zu,jc,yg,List.length_set,List.length_append,List.length_singleton,V4,S9,Ec,z4U,Nh,zc1]):p:=h
instance (c:vM) (v:List Lf.Rat):Sp (CZ c v) (ck c/\rs v) (λr=>rg r/\rl r<=12000000):=⟨λ⟨⟨h1,X,h3⟩,hv⟩=>by
 have hA:∀ x∈c.2.1,rg x.2.1/\rl x.2.1<=20700:=λx U=>⟨h1.1 x U,by have:=Wd U; unfold cb at X; omega⟩
 have hK:rg c.2.2.1/\rl c.2.2.1<=20700:=⟨h1.2,by have:=Fg c; omega⟩
 have L:∀ z b,Sp (JL v c.2.1 (c.2.1.length:Int) (0,z,b)) (rg b/\rl b<=20700) (λr=>rg r.2/\rl r.2<=12000000):=λz b=>⟨λJ=>by
  unfold JL
  refine cJ c.2.1 (zb qk) (λ(i,_)=>i) (λx=>rg x.2.1/\rl x.2.1<=20700) (λ_=>True) (λ(i,_,d)=>0<=i/\i<=512/\rg d/\(rl d:Int)<=20700+22410*i) hA ⟨rfl,qh,qh,J.1,by have:=J.2; show(rl b:Int)<=20700+22410*0; omega⟩ (λ⟨i,y,d⟩ x hj U he i0 hi => ?_) λ⟨i,y,d⟩ hj he _ => ?_
  ·dsimp only at *
   unfold Wl
   dsimp only
   rw[he]
   clear he hA J hK h1 X
   exact gov
  ·dsimp only at *
   unfold Wl
   clear hA J hK h1 X
   exact gov⟩
 unfold CZ
 clear hA h1 X h3
 exact gov⟩
instance (c:vM) (v:List Lf.Rat):Sp (tC c v) (ck c/\rs v) (λ_=>True):=⟨λh=>by unfold tC; exact gov⟩
instance (c:vM) (j:Int) (v:List Lf.Rat):Sp (tR c j v) ((ck c/\rs v)/\c.2.1.length<=64/\∀ t∈c.2.1,0<=t.1/\t.1<v.length) (λr=>r.2=v/\rg r.1/\rl r.1<=3000000/\(nm r.1\/rl r.1<=2)):=⟨λ⟨⟨⟨h1,X,h3⟩,hv⟩,B,ht⟩=>by
 have hA:∀ x∈c.2.1,(rg x.2.1/\rl x.2.1<=20700)/\0<=x.1/\x.1<v.length:=λx U=>⟨⟨h1.1 x U,by have:=Wd U; unfold cb at X; omega⟩,ht x U⟩
 have hK:rg c.2.2.1/\rl c.2.2.1<=20700:=⟨h1.2,by have:=Fg c; omega⟩
 have L:∀ z b f,Sp (sI j c.2.1 (c.2.1.length:Int) (0,v,z,b,f)) (rg b/\rl b<=20700/\rg f/\rl f<=20700) (λr=>r.1=v/\rg r.2.2.1/\rl r.2.2.1<=1600000/\rg r.2.2.2/\rl r.2.2.2<=20700):=λz b f=>⟨λJ=>by
  unfold sI
  refine cJ c.2.1 (zb qk) (λ(i,_)=>i) (λx=>(rg x.2.1/\rl x.2.1<=20700)/\0<=x.1/\x.1<v.length) (λ_=>True) (λ(i,a,_,d,e)=>a=v/\0<=i/\i<=64/\rg d/\(rl d:Int)<=20700+22410*i/\rg e/\rl e<=20700) hA ⟨rfl,rfl,qh,qh,J.1,by have:=J.2.1; show(rl b:Int)<=20700+22410*0; omega,J.2.2⟩ (λ⟨i,a,y,d,e⟩ x hj U he i0 hi => ?_) λ⟨i,a,y,d,e⟩ hj he _ => ?_
  ·dsimp only at *
   unfold lI
   dsimp only
   rw[he]
   clear he hA J hK h1 X ht
   exact gov
  ·dsimp only at *
   unfold lI
   clear hA J hK h1 X ht
   exact gov⟩
 unfold tR
 clear hA h1 X h3 ht
 exact gov⟩
instance (l:List vM) (o:List Int) (v:List Lf.Rat):Sp (YN l o v) (Uy l/\o.length<=1000000/\rs v) (λr=>(r.2.2=0->rs r.1/\r.1.length=v.length) /\ -1<=r.2.1/\r.2.1<l.length):=⟨λ⟨h,ho,hv⟩=>by
 unfold YN
 refine za ⟨csw h,ho⟩ λz hz=>ze (λ_=>zd ⟨nofun,by show(-1:Int) <= -1/\(-1:Int)<l.length; omega⟩) λk => ?_
 obtain⟨n,y,hn,hC⟩:=hz (by simpa using k)
 have hn:v.length=n:=Z
 subst hn
 have hol:=hC.ol
 have zvl:=hC.n64
 refine zi ⟨rfl,rfl,rfl⟩ (zi rfl (xc (xp (P:=λd=>rs d/\d.length=v.length) ?_ λd V => ?_)))
 ·unfold Hl
  refine vY (σ:=Int×List Lf.Rat) (λ(i,a)=>0<=i/\i<=v.length/\rs a/\(a.length:Int)=i) (λ(i,_)=>(v.length-i).toNat) ⟨qh,Z,Nh,rfl⟩ ?_
  rintro⟨i,a⟩ ⟨i0,i1,ha,B⟩
  have U:=λq=>Eb hv i i0 q
  have hv1:=hv.1
  unfold U8
  clear hC h hz
  exact gov
 ·refine za ⟨csw h,ho⟩ λf hf=>zc (z8 (xc (xp (P:=λz:List Lf.Rat⊕(Int×Int×List Lf.Rat)=>z.elim (λa=>rs a/\a.length=v.length) λz=>((0:Int)<=z.1/\z.1<(l.length:Int))/\z.2.1=(8:Int)) ?_ λz hz => ?_)))
  ·unfold Hm
   refine cJ (σ:=Int×List Lf.Rat) f di (λ(i,_)=>i) (λi:Int=>(0<=i/\i<l.length)/\0<=nth o i di/\nth o i di<v.length) (λ_=>True) (λ(_,a)=>rs a/\a.length=v.length) hf.1 ⟨rfl,V⟩ (λ⟨i,a⟩ x hj U he i0 hi => ?_) λ⟨i,a⟩ hj he _ => ?_
   ·dsimp only at he i0 hi
    obtain⟨⟨x0,x1⟩,y0,y1⟩:=U
    obtain⟨ha,Yh⟩:=hj
    have hcm:=xj (l:=l) (d:=zb zq) x0 x1
    have hV:=(hC.ac.vc (Z) hcm).2.2
    have hlen:=zcQ hC.ac (Z) (Z) hcm
    have hck:=h.2 _ hcm
    have HM:x<o.length:=Z
    have hw:q9 (i+1)=i+1:=qs (Z) (by have:=hf.2; omega)
    unfold Qz
    dsimp only
    rw[show nth f i (zb (.int .i64))=x from he]
    refine vD (by simpa using hi) (qo ⟨i0,hi⟩ (qo ⟨x0,x1⟩ (qo ⟨x0,HM⟩ (zc (z8 (za ⟨⟨hck,ha⟩,Z,λt ht=>by rw[Yh]; exact hV t ht⟩ λ⟨g,b⟩ hg => ?_))))))
    obtain⟨J,hg1,hg2,hg3⟩:=hg
    have J:b=a:=J
    subst J
    refine za ⟨hg1,by have:rl g<=3000000:=hg2; show rl g<=_; omega⟩ λk hk=>ze (λ_=>z8 (zd ⟨⟨x0,x1⟩,rfl⟩)) λe => ?_
    have hrl:=zc1 g hg3 (hk (by simpa using e))
    have hy1:nth o x di<b.length:=by rw[Yh]; exact y1
    refine qo ⟨x0,HM⟩ (qo ⟨y0,hy1⟩ (zi ⟨rfl,by rw[Nat.zero_add]; show(nth o x di).toNat<b.length; omega⟩ (zi ⟨by rw[List.length_set],rfl,by rw[List.length_set]⟩ (zi (by rw[List.length_set]) (zd ⟨hw,⟨Ec _ _ _ ha hg1 hrl,by show(List.set _ _ _).length=_; rw[List.length_set]; exact Yh⟩,trivial⟩)))))
   ·unfold Qz
    refine wz (by simpa using Int.le_of_eq he.symm) (zc (z8 (zd hj)))
  ·rcases z with a | ⟨h1,i1,j1⟩
   ·refine z8 (zd ?_)
    rw[dh]
    exact⟨λ_=>hz,by show(-1:Int) <= -1/\(-1:Int)<l.length; omega⟩
   ·obtain⟨⟨k0,k1⟩,k2⟩:=hz
    have k2:i1=8:=k2
    subst k2
    exact zd ⟨nofun,by have:0<=h1:=k0; show -1<=h1; omega,k1⟩⟩
open T PL
instance (c:vM):Sp (QA c) (ck c) (λ_=>True):=⟨λh=>by
 have h1:=h.1.2
 have X:=h.2.1
 have h3:=Fg c
 unfold QA
 exact gov⟩
instance (c:vM) (n:Int):Sp (gq c n) (n<=1000000/\ck c) (λr=>r=false->(dB c n).run=some true):=⟨λh=>by
 unfold gq
 obtain⟨r,hr,_⟩:=T.fK.1 (Sp.sp (t:=dB c n) ⟨h.1,h.2.1,by have:=h.2.2.1; omega,by have:=h.2.2.2; omega⟩)
 exact xc (gI hr (zd λe=>by rw[hr]; simpa using e))⟩
def ou(l:List Int):Prop:=∀ x∈l,-1<=x/\x<1000000000000000000
instance (l:List vM) (s:jk):Sp (tV l s) (Uy l/\s.1.length<=1000000/\rs s.2.1) (λr=>(r.2.2=0->rs r.1.2.1/\r.1.2.1.length=s.2.1.length/\r.1.1.length=l.length/\ou r.1.1/\1<=s.2.1.length) /\ -1<=r.2.1/\r.2.1<l.length):=⟨λ⟨h,ho,hv⟩=>by
 unfold tV
 have z84:(-1:Int)<l.length:=Z
 refine xc (xp (P:=λz=>(z.1=false->(Ac s.2.1.length l/\s.2.1.length<=64)/\1<=s.2.1.length)/\z.2.2=(s.2.1.length:Int)) ?_ ?_)
 ·refine ze (λ_=>zd ⟨nofun,rfl⟩) λh1=>ze (λ_=>zd ⟨nofun,rfl⟩) λh64=>ze (λ_=>zd ⟨nofun,rfl⟩) λ_=>ze (λ_=>zd ⟨nofun,rfl⟩) λ_ => ?_
  have h64:=ga h64
  refine za ⟨by have:=h.1; omega,λx U=>⟨Z,h.2 x U⟩⟩ λr hr=>zd ⟨λe=>⟨⟨⟨h.1,λc hc=>⟨(csw h).2 c hc,?_⟩⟩,Z⟩,by have:=ga h1; omega⟩,rfl⟩
  have e:r=false:=e
  rcases hr with⟨_,k⟩ | ⟨k,_⟩
  ·exact k c hc rfl
  ·rw[e]at k; cases k
 ·rintro⟨j,k,d⟩ ⟨hA,V⟩
  have V:d=s.2.1.length:=V
  subst V
  refine ze (λ_=>zd ⟨nofun,by show(-1:Int) <= -1; decide,z84⟩) λe => ?_
  obtain⟨⟨hA,h64⟩,Yk⟩:=hA e
  refine za ⟨Z,Z,hA⟩ λf hf=>ze (λe=>zd ⟨nofun,hf.1,hf.2.1⟩) λ_ => ?_
  refine za ⟨csw h,ho⟩ λ⟨o,b⟩ hS=>ze (λ_=>zd ⟨nofun,by show(-1:Int) <= -1; decide,z84⟩) λe => ?_
  obtain⟨m,y,hm,hC⟩:=hS.2 (by simpa using e)
  have hol:o.length=l.length:=hC.ol
  have zgJ:=h.1
  have hou:ou o:=λx U=>by
   obtain⟨j,j0,j1,rfl⟩:=J0 (d:=di) U
   rcases hC.oc j j0 (Z)with q | ⟨q,_⟩
   ·have q:nth o j di = -1:=q
    omega
   ·have q2:0<=nth o j di/\nth o j di<(m:Int):=hC.vr j0 (Z) q
    have:=hC.n64
    omega
  refine xc (xp (P:=λz:(jk×Int)⊕(Int×Int×jk×Int)=>z.elim (λ_=>True) λz=>((-1:Int)<=z.1/\z.1<(l.length:Int))/\z.2.1=(10:Int)) ?_ ?_)
  ·unfold W9
   refine vY (σ:=Int×jk×Int) (λ(i,_)=>0<=i/\i<=l.length) (λ(i,_)=>(l.length-i).toNat) ⟨qh,Z⟩ ?_
   rintro⟨i,c,d⟩ ⟨i0,i1⟩
   have U:0<=i->i<l.length->ck (nth l i (zb zq)):=λp q=>h.2 _ (xj p q)
   unfold sW
   clear hC hS hA hf h hv
   exact gov
  ·rintro(⟨r,t⟩ | ⟨i,q,t,u⟩) hz
   ·refine za ⟨h,by show o.length<=_; omega,hv⟩ λ⟨m,n,g⟩ hR=>ze (λe=>zd ⟨λq => ?_,hR.2⟩) λe=>zd ⟨λ_=>⟨(hR.1 ?_).1,(hR.1 ?_).2,hol,hou,Yk⟩,by show(-1:Int) <= -1; decide,z84⟩
    ·have q:g=0:=q
     rw[q]at e; cases e
    ·simpa using e
    ·simpa using e
   ·obtain⟨⟨k0,k1⟩,k2⟩:=hz
    have k2:q=10:=k2
    subst k2
    exact zd ⟨nofun,k0,k1⟩⟩
def Sys(a:ux):Prop:=Uy a.2.1/\a.2.2.1.length=a.2.1.length/\a.2.2.2.1.length=a.2.1.length/\io (a.1.2.2.2.2.1.length+a.1.2.2.2.1.length) a.2.2.2.1
instance (b:Int) (a:ux):Sp (dr b a) (Sys a /\ -1<=b/\b<a.2.1.length/\a.1.2.2.2.2.1.length<=10000/\a.1.2.2.2.1.length<=10000) (λr=>r.2=a/\r.1.length<=1/\∀ s∈r.1,fm a.1 s):=⟨λ⟨⟨h1,X,h3,h4⟩,h5,h6,h7⟩=>by
 have m1:∀ (i:Int),0<=i->i<a.1.2.2.2.2.1.length->fm a.1 (nth a.1.2.2.2.2.1 i (zb xl)).1:=λi p q=>.inr (.inr (.inl ⟨_,xj p q,rfl⟩))
 have m2:∀ (i:Int),0<=i->i<a.1.2.2.2.1.length->fm a.1 (nth a.1.2.2.2.1 i (zb qq)).1:=λi p q=>.inr (.inl ⟨_,xj p q,rfl⟩)
 have m3 := @List.mem_singleton zn
 generalize fm a.1=M at *
 have U:0<=b->0<=nth a.2.2.2.1 b (zb (.int .i64))/\nth a.2.2.2.1 b (zb (.int .i64))<a.1.2.2.2.2.1.length+a.1.2.2.2.1.length:=λp=>h4 _ (xj p (Z))
 unfold dr
 clear h1 h4
 exact gov⟩
instance (g:List Lf.Rat) (a:ux):Sp (kc g a) (Sys a/\rs g/\a.1.2.2.2.2.1.length<=10000/\a.1.2.2.2.1.length<=10000) (λr=>(r.2.2.1=0->rs r.1/\r.1.length=g.length/\Sys r.2.2.2/\r.2.2.2.1=a.1/\r.2.2.2.2.1=a.2.1/\ou r.2.2.2.2.2.1/\1<=g.length)/\r.2.1.length<=1/\∀ s∈r.2.1,fm a.1 s):=⟨λ⟨h,hg,hF⟩=>by
 unfold kc
 refine za ⟨h.1,by have:=h.2.1; have:=h.1.1; show a.2.2.1.length<=_; omega,hg⟩ λ⟨b,d,c⟩ hP=>ze (λe=>za ⟨h,hP.2.1,hP.2.2,hF⟩ λz hz=>zd ⟨λq => ?_,hz.2⟩) λe=>zd ⟨λ_ => ?_,qD _,nofun⟩
 ·have q:c=0:=q
  rw[q]at e; cases e
 ·obtain⟨p1,p2,p3,p4,p5⟩:=hP.1 (by simpa using e)
  exact⟨p1,p2,⟨h.1,p3,h.2.2⟩,rfl,rfl,p4,p5⟩⟩
open T PL
def Pn(p:wq):Prop:=rg p.2.2.1/\rl p.2.2.1<=1700
def Ps(l:List wq):Prop:=l.length<=1000000000/\∀ p∈l,Pn p
def Dw(d:wo):Prop:=rs d.1/\d.2.1.length<=1000000000/\rs d.2.2.1/\d.2.2.2.1.length<=1000000000/\Ps d.2.2.2.2.1/\d.2.2.2.2.2.1.length<=1000000000/\ou d.2.2.2.1
theorem LB(l:List wq)(i:Int)(h:Ps l)(h0:0<=i)(h1:i<l.length):rg (nth l i (zb b8)).2.2.1/\rl (nth l i (zb b8)).2.2.1<=1700:=h.2 _ (xj h0 h1)
theorem O1(l:List wq)(i:Nat)(h:Ps l)(hi:i<l.length):rg (wB l i (zb b8)).2.2.1/\rl (wB l i (zb b8)).2.2.1<=1700:=by
 have e:wB l i (zb b8)∈l:=by unfold wB; rw[zA,zH hi]; exact zN hi
 exact h.2 _ e
theorem CY(l:List wq)(i:Nat)(x:wq)(h:Ps l)(U:rg x.2.2.1)(B:rl x.2.2.1<=1700):Ps (l.set i x):=⟨by simpa using h.1,λy hy=>by
 rcases zJ hy with k | rfl
 ·exact h.2 y k
 ·exact⟨U,B⟩⟩
theorem zcI(l:List wq)(x:wq)(h:Ps l)(U:rg x.2.2.1)(B:rl x.2.2.1<=1700)(hn:l.length<1000000000):Ps (l++[x]):=⟨by simp; omega,jl h.2 ⟨U,B⟩⟩
theorem zcJ:Ps []:=⟨qw,nofun⟩
theorem DK(n:Int)(l:List Int)(i:Nat)(h:io n l)(hi:i<l.length):0<=wB l i (zb (.int .i64))/\wB l i (zb (.int .i64))<n:=h _ (Jb hi)
theorem zbO(n m:Int)(l:List Int)(h:io n l)(k:n<=m):io m l:=λi hi=>⟨(h i hi).1,Int.lt_of_lt_of_le (h i hi).2 k⟩
theorem zgv(t:Term)(k:Lf.Rat)(h1:rg t.2.1)(X:rl t.2.1<=20700)(h3:rg k)(h4:rl k<=20700):ck (1,[t],k,()):=by
 refine⟨⟨λx U=>by rw[I.1 U]; exact h1,h3⟩,?_,by show 1<=512; decide⟩
 show max (max (rl t.2.1) 0) (rl k)<=20700
 omega
theorem god{p:Prop} (h:p:=by
 intros
 repeat' (with_reducible first
  | refine zd ?_
  | refine ze (λ_ => ?_) (λ_ => ?_)
  | refine z8 ?_
  | refine zc ?_
  | refine uz ?_ ?_
  | refine qo ?_ ?_
  | refine vS ?_ ?_
  | refine wJ ?_ ?_
  | refine zi ?_ ?_
  | refine vX (λ_ _ => ?_) (λ_ _ => ?_)
  | refine za ?_ (λ_ _ => ?_)
  | refine vE ?_ (λ_ _ => ?_)
  | refine xc ?_
  | dsimp only)
 all_goals grind [xe,j6,zu,jc,yg,List.length_set,List.length_append,List.length_singleton,List.length_nil,V4,S9,Ec,z4U,Nh,LB,O1,CY,zcI,zcJ,DK,zgv,De,DJ]):p:=h
instance (c:Int) (d:Lf.Rat):Sp (Dg c d) (rg d/\rl d<=1700) (λr=>ck r):=⟨λh=>by
 unfold Dg
 exact god⟩
instance (q:Int) (i:Lf.Rat) (f:Int) (a:Form) (b:List vM) (c d:List Int):Sp (kV q i f a b c d) ((rg i/\rl i<=1700)/\(Uy b/\b.length<=900)/\c.length<=10000/\d.length<=10000/\0<=q/\q<a.2.2.2.1.length/\a.2.2.2.1.length<=10000/\a.2.2.2.2.1.length<=10000/\io (a.2.2.2.2.1.length+a.2.2.2.1.length) d)
  (λr=>(Uy r.2.1/\r.2.1.length=b.length+1)/\r.2.2.1.length=c.length+1/\(r.2.2.2.length=d.length+1/\io (a.2.2.2.2.1.length+a.2.2.2.1.length) r.2.2.2)/\r.1=a):=⟨λh=>by
 obtain⟨hi,⟨J,hb9⟩,hc,V,q0,q1,hf,hr,hio⟩:=h
 have hw:q9 ((a.2.2.2.2.1.length:Int)+q)=a.2.2.2.2.1.length+q:=qs (Z) (Z)
 unfold kV
 refine za hi λe he=>vS (Z) (vS (Z) (vS (Z) (zi ⟨qw,rfl,qw⟩ (zi ⟨qw,rfl,qw⟩ (zi ⟨qw,rfl,qw⟩ (zi (qw) (zi (qw) (zi (qw) (zd ?_)))))))))
 rw[hw]
 exact⟨⟨De b e J he (Z),qw⟩,qw,⟨qw,DJ _ _ _ hio (Z) (Z)⟩,rfl⟩⟩
instance (f:Form) (d:wo):Sp (Xu f d) True (λr=>r=true->d.2.2.1.length=f.2.2.2.1.length/\d.2.2.2.1.length=f.2.2.2.2.1.length/\d.2.2.2.2.1.length=f.2.2.2.1.length/\d.2.2.2.2.2.1.length=f.2.2.2.1.length):=⟨λ_=>by
 unfold Xu
 refine zd λh => ?_
 simp only[zR,beq_iff_eq]at h
 omega⟩
def Bt(f:Form)(b:List vM)(c d:List Int):Prop:=Uy b/\c.length=b.length/\d.length=b.length/\io (f.2.2.2.2.1.length+f.2.2.2.1.length) d
theorem zc9{f:Form}{n s:zn}(h:St f->n=[]\/rnQ f n)(hs:St f)(e:(!(xx n []))=true)(hm:s∈[n]):fm f s:=by
 rw[I.1 hm]
 rcases h hs with rfl | h
 ·cases e
 ·exact .inr (.inr (.inl h))
instance (f:Form) (d:wo):Sp (dE f d) (FW 8200 f/\Dw d) (λr=>match r with | .inl (k,a,b,c,e)=>k=0/\a=f/\Bt f b c e/\FV f/\f.2.2.2.1.length<=64/\f.2.2.2.2.1.length<=64/\d.2.2.1.length=f.2.2.2.1.length/\d.2.2.2.1.length=f.2.2.2.2.1.length/\d.2.2.2.2.1.length=f.2.2.2.1.length/\d.2.2.2.2.2.1.length=f.2.2.2.1.length/\d.1.length=f.2.1.length/\d.2.1.length=f.1.length/\b.length<=128/\St f | .inr (n,k)=>k≠0/\n.length<=1/\(St f->∀ s∈n,fm f s)):=⟨λ⟨hF,hD⟩=>by
 unfold dE
 refine za trivial λo ho=>ze (λ_=>zd ⟨qh,qD _,nofun⟩) λe => ?_
 have ho:=ho (by simpa using e)
 refine za ⟨hF,hD.1,hD.2.1⟩ λ⟨p,n,k,g,b⟩ hz=>ze (λe=>zd ⟨by simpa using(zP.1 e).1,zT _,λhs s hm=>zc9 hz.2.2.2.2.2 hs (zP.1 e).2 hm⟩) λ_=>ze (λe=>zd ⟨by simpa using e,qD _,nofun⟩) λe => ?_
 obtain⟨hg,J,hgb,hg64,hz,-⟩:=hz
 obtain⟨hV,h1,X,h3,h4,hS⟩:=hz (by simpa using e)
 dsimp only at hg J hgb hg64
 refine zc (z8 (z8 (zc (zi ⟨rfl,rfl,rfl⟩ (zc (zi rfl (xc (xp (P:=λz=>∃ c:List Int,z=(g,b,(),f,c)/\c.length=b.length) ?_ ?_))))))))
 ·unfold Xs
  refine vY (σ:=Int×List vM×List Int×Unit×Form×List Int) (λ(i,x,y,u,w,c)=>(x=g/\y=b/\w=f)/\0<=i/\i<=b.length/\(c.length:Int)=i) (λ(i,_)=>(b.length-i).toNat) ⟨⟨rfl,rfl,rfl⟩,qh,Z,rfl⟩ ?_
  rintro⟨i,x,y,u,w,c⟩ ⟨⟨rfl,rfl,rfl⟩,i0,i1,hc⟩
  unfold rV
  refine ze (λV => ?_) λV => ?_
  ·have V:=uC V
   have hn:=DK _ _ (0+i.toNat) J (Z)
   have hw:q9 (i+1)=i+1:=qs (Z) (Z)
   have Yk:wB y (0+i.toNat) (zb (.int .i64))<d.2.2.2.1.length:=by have:=hn.2; have:=ho.2.1; omega
   refine qo ⟨i0,V⟩ (zi ⟨rfl,Z⟩ (qo ⟨hn.1,Yk⟩ (vS (Z) (zc (z8 (z8 (zc (zi ⟨qw,rfl,qw⟩ (zc (zi (qw) (zd ?_)))))))))))
   rw[hw]
   exact⟨⟨⟨rfl,rfl,rfl⟩,Z,Z,by show((c++[_]).length:Int)=i+1; rw[List.length_append,List.length_singleton]; omega⟩,by simp only; omega⟩
  ·have V:=ga V
   exact z8 (z8 (zc (zc (zc (z8 (zd ⟨c,rfl,Z⟩))))))
 ·rintro _ ⟨c,rfl,hc⟩
  refine z8 (z8 (zc (zc (zc (z8 (xc (xp (P:=λz=>∃ (x:List vM) (y q:List Int) (w:Form),z=(x,y,(),w,q)/\Bt f x q y/\w=f/\x.length<=128) ?_ ?_)))))))
  ·unfold Xt
   have hPn:=hD.2.2.2.2.1
   have zpy:d.2.2.2.2.1.length<=64:=by have:=ho.2.2.1; omega
   have hP3:=ho.2.2.1
   generalize d.2.2.2.2.1=ps at hPn zpy hP3 ⊢
   refine vY (σ:=Int×List vM×List Int×Unit×Form×List Int) (λ(i,x,y,u,w,c)=>w=f/\0<=i/\i<=ps.length/\Bt f x c y/\(x.length:Int)<=64+i) (λ(i,_)=>(ps.length-i).toNat) ⟨rfl,qh,Z,⟨hg,Z,Z,zbO _ _ _ J (Z)⟩,Z⟩ ?_
   rintro⟨i,x,y,u,w,c⟩ ⟨rfl,i0,i1,hB,U⟩
   obtain⟨b1,b2,b3,b4⟩:=hB
   unfold rW
   refine ze (λV => ?_) λV => ?_
   ·have V:=uC V
    have hp:=LB ps i hPn i0 V
    have hw:q9 (i+1)=i+1:=qs (Z) (Z)
    refine qo ⟨i0,V⟩ (ze (λ_=>z8 (z8 (zc (zc (zc (z8 (zd ?_))))))) λ_ => ?_)
    ·rw[hw]
     exact⟨⟨rfl,Z,Z,⟨b1,b2,b3,b4⟩,Z⟩,by simp only; omega⟩
    ·have q1:i<w.2.2.2.1.length:=Z
     have q2:w.2.2.2.1.length<=10000:=Z
     have q3:w.2.2.2.2.1.length<=10000:=Z
     refine zc (zc (zc (z8 (z8 (z8 (za ⟨hp,⟨b1,Z⟩,Z,Z,i0,q1,q2,q3,b4⟩ λ⟨e,p,q,r⟩ hr=>z8 (z8 (zc (zc (zc (z8 (zd ?_))))))))))))
     obtain⟨⟨r1,r2⟩,r3,⟨r4,r5⟩,r6⟩:=hr
     dsimp only at r1 r2 r3 r4 r5 r6
     rw[hw]
     exact⟨⟨r6,Z,Z,⟨r1,Z,Z,r5⟩,Z⟩,by simp only; omega⟩
   ·exact z8 (z8 (zc (zc (zc (z8 (zd ⟨x,y,c,w,rfl,⟨b1,b2,b3,b4⟩,rfl,Z⟩))))))
  ·rintro _ ⟨x,y,q,w,rfl,hB,rfl,U⟩
   exact zc (zc (zc (z8 (z8 (z8 (zd ⟨rfl,rfl,hB,hV,h1,X,ho.1,ho.2.1,ho.2.2.1,ho.2.2.2,h3,h4,U,hS⟩))))))⟩
end Go.AM.Lf
