/-
  Plain laws of the lifted program, part 2.
-/
import Derived.Test.YtgnfpdlhibjeeaaGreatDoorLf1
import Derived.Test.YtgnfpdlhibjeeaaGreatDoorAmA
import Derived.Test.YtgnfpdlhibjeeaaGreatDoorAmD
import Derived.KernelRfl
import Derived.Test.YtgnfpdlhibjeeaaGreatDoorQ0
import Derived.Test.YtgnfpdlhibjeeaaGreatDoorQ1
set_option linter.unusedVariables false
open Nat renaming le_trans -> zA, zero_le -> Y, cast -> zE, le_refl -> zH, le_of_eq -> zT
open List renaming length -> I, take -> R, length_take -> zF, drop -> zI, mem_of_mem_take -> zK, mem_singleton -> zM, length_drop -> zO, sizeOf_lt_of_mem -> zP, mem_of_getElem? -> zQ, mem_of_mem_drop -> zR
open Bool renaming and_eq_true_iff -> zG
open Int renaming le_refl -> zJ, lt_of_le_of_lt -> zN
open Sum renaming elim -> zL
open SizeOf renaming sizeOf -> zS
open Go.AM.T (Js V5 W6 WA fK gI ji mI qo rf sZ uz vD vE vK vP vS vX vY wJ wz xc xg xp xy yN z8 za zc zd ze zi zt)
namespace Go.AM.Lf
open T PL
theorem goz{p:Prop} (h:p:=by
 intros
 repeat' (with_reducible first
  | refine zd ?_
  | refine ze (λ_ => ?_) (λ_ => ?_)
  | refine z8 ?_
  | refine zc ?_
  | refine uz ?_ ?_
  | refine qo ?_ ?_
  | refine vS ?_ ?_
  | refine wJ ?_ ?_
  | refine zi ?_ ?_
  | refine vX (λ_ _ => ?_) (λ_ _ => ?_)
  | refine za ?_ (λ_ _ => ?_)
  | refine vE ?_ (λ_ _ => ?_)
  | refine xc ?_
  | dsimp only)
 all_goals grind [xe,j6,zu,jc,List.length_set]):p:=h
instance (a:wo):Sp (mz a) (Dw a) (λr=>r=((),a.1,a.2.1,a.2.2.1,a.2.2.2.1,a.2.2.2.2.1,a.2.2.2.2.2.1)):=⟨λ⟨h1,X,h3,h4,h5,h6⟩=>by
 have k1:=h1.1
 have k3:=h3.1
 have k5:=h5.1
 unfold mz
 exact goz⟩
theorem N4{l:List Int}(h:ou l)(i:Nat){x:Int}(U : -1<=x/\x<1000000000000000000):ou (l.set i x):=λy hy=>by
 rcases List.mem_or_eq_of_mem_set hy with k | rfl
 ·exact h y k
 ·exact U
def z10(w:wo)(a:List Int)(d:List wq):Prop:=ou a/\a.length=w.2.2.2.1.length/\Ps d/\d.length=w.2.2.2.2.1.length
instance (w:wo) (x:List Lf.Rat) (y:ux):Sp (gP w x y) (Dw w/\(Sys y/\ou y.2.2.1)/\w.2.2.2.1.length=y.1.2.2.2.2.1.length/\w.2.2.2.2.1.length=y.1.2.2.2.1.length)
  (λr=>∃ (a:List Int) (d:List wq),r=((x,()),y,w.1,w.2.1,a,d,w.2.2.2.2.2.1)/\z10 w a d):=⟨λ⟨hD,⟨hS,hou⟩,hR,hF⟩=>by
 have V:=hD.2.2.2.2.1
 have ho:=hD.2.2.2.1
 have hd2:=V.1
 obtain⟨s1,s2,s3,s4⟩:=hS
 have s5:=s1.1
 unfold gP
 refine za hD λ_ e => ?_
 subst e
 refine zc (zc (zc (zc (zc (z8 (z8 (z8 (z8 (z8 (z8 (xc (xp (P:=λz=>∃ (k:wo) (a:List Int),z=(y,(x,()),k,w.1,w.2.1,w.2.2.1,a,w.2.2.2.2.1,w.2.2.2.2.2.1)/\ou a/\a.length=w.2.2.2.1.length) ?_ ?_))))))))))))
 ·unfold nE
  refine vY (λz=>∃ (i:Int) (k:wo) (a:List Int),z=(i,y,(x,()),k,w.1,w.2.1,w.2.2.1,a,w.2.2.2.2.1,w.2.2.2.2.2.1)/\(ou a/\a.length=w.2.2.2.1.length)/\0<=i/\i<=w.2.2.2.1.length) (λz=>(w.2.2.2.1.length-z.1).toNat) ⟨0,_,_,rfl,⟨hD.2.2.2.2.2.2,rfl⟩,qh,Z⟩ ?_
  rintro _ ⟨i,k,a,rfl,⟨hoa,ha⟩,i0,i1⟩
  unfold dF
  refine ze (λhi => ?_) λhi => ?_
  ·have hi:=uC hi
   have hw:q9 (i+1)=i+1:=qs (Z) (Z)
   refine qo ⟨i0,Z⟩ (zi ⟨rfl,Z⟩ (zc (zc (zi ⟨by rw[List.length_set],rfl,by rw[List.length_set]⟩ (zc (zc (z8 (z8 (z8 (zi (by rw[List.length_set]) (z8 (z8 (zd ?_)))))))))))))
   rw[hw]
   exact⟨⟨i+1,k,_,rfl,⟨N4 hoa _ (qh),by rw[List.length_set]; exact ha⟩,Z,Z⟩,by simp only; omega⟩
  ·exact zc (zc (zc (zc (zc (z8 (z8 (z8 (z8 (z8 (z8 (zd ⟨k,a,rfl,hoa,ha⟩)))))))))))
 ·rintro _ ⟨k,a,rfl,hoa,ha⟩
  refine zc (zc (zc (zc (zc (z8 (z8 (z8 (z8 (z8 (z8 (xc (xp (P:=λz=>∃ (k:wo) (a:List Int) (d:List wq),z=(y,(x,()),k,w.1,w.2.1,w.2.2.1,a,d,w.2.2.2.2.2.1)/\z10 w a d) ?_ ?_))))))))))))
  ·unfold nF
   refine vY (λz=>∃ (i:Int) (k:wo) (a:List Int) (d:List wq),z=(i,y,(x,()),k,w.1,w.2.1,w.2.2.1,a,d,w.2.2.2.2.2.1)/\z10 w a d/\0<=i/\i<=y.2.2.1.length) (λz=>(y.2.2.1.length-z.1).toNat) ⟨0,_,_,_,rfl,⟨hoa,ha,V,rfl⟩,qh,Z⟩ ?_
   rintro _ ⟨i,k,a,d,rfl,⟨hoa,ha,V,FM⟩,i0,i1⟩
   unfold dG
   refine ze (λhi => ?_) λhi => ?_
   ·have hi:=uC hi
    have hw:q9 (i+1)=i+1:=qs (Z) (Z)
    have hio:i<y.2.2.2.1.length:=Z
    have hh:=s4 _ (xj (d:=di) i0 hio)
    have h0:(0:Int)<=nth y.2.2.2.1 i di:=hh.1
    have h1:(y.1.2.2.2.2.1.length+y.1.2.2.2.1.length:Int) > nth y.2.2.2.1 i di:=hh.2
    refine qo ⟨i0,hi⟩ (qo ⟨i0,hio⟩ (ze (λe => ?_) λe => ?_))
    ·have e:(a.length:Int) > nth y.2.2.2.1 i di:=uC e
     have e':0+(nth y.2.2.2.1 i di).toNat<a.length:=Z
     refine qo ⟨h0,e⟩ (zi ⟨rfl,e'⟩ (zc (zc (zi ⟨by rw[List.length_set],rfl,by rw[List.length_set]⟩ (zc (zc (z8 (z8 (z8 (zi (by rw[List.length_set]) (z8 (z8 (zd ?_)))))))))))))
     rw[hw]
     exact⟨⟨i+1,k,_,d,rfl,⟨N4 hoa _ (hou _ (xj (d:=di) i0 (Z))),by rw[List.length_set]; exact ha,V,FM⟩,Z,Z⟩,by simp only; omega⟩
    ·have e:¬ (a.length:Int) > nth y.2.2.2.1 i di:=ga e
     have hwm:q9 (nth y.2.2.2.1 i di-a.length)=nth y.2.2.2.1 i di-a.length:=qs (Z) (Z)
     have e1:(0:Int)<=q9 (nth y.2.2.2.1 i di-a.length)/\(d.length:Int) > q9 (nth y.2.2.2.1 i di-a.length):=by rw[hwm]; omega
     have e2:0+(q9 (nth y.2.2.2.1 i di-a.length)).toNat<d.length:=Z
     have hp:=O1 d _ V e2
     refine qo e1 (zi ⟨rfl,e2⟩ (zc (zc (zc (zi ⟨by rw[List.length_set],rfl,by rw[List.length_set]⟩ (zc (z8 (z8 (z8 (z8 (zi (by rw[List.length_set]) (z8 (zd ?_)))))))))))))
     rw[hw]
     exact⟨⟨i+1,k,a,_,rfl,⟨hoa,ha,CY _ _ _ V hp.1 hp.2,by rw[List.length_set]; exact FM⟩,Z,Z⟩,by simp only; omega⟩
   ·exact zc (zc (zc (zc (zc (z8 (z8 (z8 (z8 (z8 (z8 (zd ⟨k,a,d,rfl,hoa,ha,V,FM⟩)))))))))))
  ·rintro _ ⟨k,a,d,rfl,hT⟩
   exact zc (zc (zc (zc (zc (z8 (z8 (z8 (z8 (z8 (zd ⟨a,d,rfl,hT⟩))))))))))⟩
def Dx(f:Form)(d:wo):Prop:=Dw d/\FV f/\f.2.2.2.1.length<=64/\f.2.2.2.2.1.length<=64/\d.2.2.1.length=f.2.2.2.1.length/\d.2.2.2.1.length=f.2.2.2.2.1.length/\d.2.2.2.2.1.length=f.2.2.2.1.length/\d.2.2.2.2.2.1.length=f.2.2.2.1.length/\d.1.length=f.2.1.length/\d.2.1.length=f.1.length
theorem zb1{α:Type}{t:T α}{Q:α->Prop}(k:t.wp Q):(T.zl (zu 0 0 0 0) (T.zl (zu 0 0 0 0) (T.zl (zu 0 0 0 0) (T.zl (zu 0 0 0 0) (oZ (T.zl ((0:Nat)=0) (T.zl ((0:Nat)=0) (T.zl ((0:Nat)=0) (T.zl ((0:Nat)=0) t))))))))).wp Q:=by
 have c:zu 0 0 0 0:=⟨rfl,rfl,rfl⟩
 exact⟨c,c,c,c,c,rfl,rfl,rfl,rfl,rfl,k⟩
theorem zfC{α A hl C D κ':Type}{a:List A}{b:List hl}{c:List C}{d:List D}{e:List κ'}{t:T α}{Q:α->Prop}(k:t.wp Q):(oC a (oC b (oC c (oC d (oC e (W a (W b (W c (W d (W e t)))))))))).wp Q :=
 zc (zc (zc (zc (zc (z8 (z8 (z8 (z8 (z8 k)))))))))
abbrev D8(r:((List Lf.Rat)×Unit)×(List zn)×Int×(List Lf.Rat)×(List Bool)×(List Int)×(List wq)×(List Bool)):wo:=(r.2.2.2.1,r.2.2.2.2.1,r.1.1,r.2.2.2.2.2.1,r.2.2.2.2.2.2.1,r.2.2.2.2.2.2.2,())
instance (f:Form) (d:wo):Sp (ez f d) (FW 8200 f/\Dw d) (λr=>(r.2.2.1=0->Dx f (D8 r)/\1<=f.2.2.2.1.length)/\r.2.1.length<=1/\(St f->∀ s∈r.2.1,fm f s)):=⟨λ⟨hF,hD⟩=>by
 unfold ez
 refine za ⟨hF,hD⟩ λz hz => ?_
 rcases z with⟨k,a,b,c,e⟩ | ⟨n,m⟩
 ·obtain⟨rfl,rfl,⟨b1,b2,b3,b4⟩,hV,f1,f2,l1,l2,l3,l4,l5,l6,-⟩:=hz
  refine wz rfl (z8 (z8 (z8 ?_)))
  rw[dh,dh,dh]
  refine za ⟨⟨b1,b2,b3,b4⟩,hD.2.2.1,by show a.2.2.2.2.1.length<=_; omega,by show a.2.2.2.1.length<=_; omega⟩ λ⟨v,ns,err,y⟩ hp=>ze (λe=>zb1 (zd ⟨λq => ?_,hp.2.1,λ_=>hp.2.2⟩)) λe => ?_
  ·have q:err=0:=q
   rw[q]at e; cases e
  ·obtain⟨p1,p2,p3,p4,-,p5,p6⟩:=hp.1 (by simpa using e)
   have p4:y.1=a:=p4
   have p2:v.length=d.2.2.1.length:=p2
   refine za ⟨hD,⟨p3,p5⟩,by rw[p4]; omega,by rw[p4]; omega⟩ λ_ hr => ?_
   obtain⟨o,ps,rfl,Bu,t1,t2,t3⟩:=hr
   exact zfC (zd ⟨λ_=>⟨⟨⟨hD.1,hD.2.1,p1,by show o.length<=_; omega,t2,hD.2.2.2.2.2.1,Bu⟩,hV,f1,f2,by show v.length=_; omega,by show o.length=_; omega,by show ps.length=_; omega,l4,l5,l6⟩,Z⟩,Y _,nofun⟩)
 ·have hz:m≠0/\n.length<=1/\(St f->∀ s∈n,fm f s):=hz
  refine vD (by simpa using hz.1) (zb1 (zd ⟨λq=>absurd q hz.1,hz.2⟩))⟩
open T PL
abbrev N12:=List Bool×List Bool×List Bool×List Bool×List wq×List wq×List Int×List Int×List Lf.Rat×List Lf.Rat×List Lf.Rat×List Lf.Rat
abbrev N15:=Int×Unit×Unit×N12
def ra(l:List Lf.Rat):Prop:=∀ x∈l,rg x/\rl x<=1700
def pa(l:List wq):Prop:=∀ x∈l,Pn x
def Nw(m n p r s:Nat)(t:N12):Prop:=t.2.2.1.length=m/\t.2.2.2.1.length=n/\(pa t.2.2.2.2.2.1/\t.2.2.2.2.2.1.length=n)/\(ou t.2.2.2.2.2.2.2.1/\t.2.2.2.2.2.2.2.1.length=p)/\(ra t.2.2.2.2.2.2.2.2.2.2.1/\t.2.2.2.2.2.2.2.2.2.2.1.length=r)/\(ra t.2.2.2.2.2.2.2.2.2.2.2/\t.2.2.2.2.2.2.2.2.2.2.2.length=s)
theorem Kb{α:Type}(l:List α)(x:α):(l++[x]).length=l.length+1:=qw
theorem cu1{α:Type}(l:List α)(x:α):zu (l.length+1) 0 (l.length+1) (l++[x]).length:=by rw[Kb]; exact⟨rfl,rfl,rfl⟩
instance (f:Form):Sp (Ws f) (F9 f) (λr=>(r.2.2.1=0->Dx f (D8 r)/\1<=f.2.2.2.1.length)/\r.2.1.length<=1/\(St f->∀ s∈r.2.1,fm f s)):=⟨λ⟨hF,hp⟩=>by
 have n0:=hF.1.1
 have n1:=hF.2.1.1
 have n2:=hF.2.2.2.1.1
 have n3:=hF.2.2.2.2.1.1
 unfold Ws
 iterate 11 refine zi ⟨rfl,rfl,rfl⟩ ?_
 refine zi ⟨rfl,rfl,rfl⟩ (zi rfl ?_)
 iterate 11 refine zi rfl ?_
 refine xc (xp (P:=λz=>Nw 0 0 0 f.2.1.length 0 z.2.2) ?_ ?_)
 ·unfold UC
  refine vY (λz:N15=>∃ k:Nat,z.1=(k:Int)/\k<=f.2.1.length/\Nw 0 0 0 k 0 z.2.2.2) (λz:N15=>((f.2.1.length:Int)-z.1).toNat) ⟨0,rfl,Z,rfl,rfl,⟨nofun,rfl⟩,⟨nofun,rfl⟩,⟨nofun,rfl⟩,nofun,rfl⟩ ?_
  rintro⟨_,u,v,c,d,e,g,h,i,j,k,l,m,a,b⟩ ⟨n,rfl,h1,w1,w2,⟨w3,w4⟩,⟨w0,w5⟩,⟨w6,w7⟩,w8,w9⟩
  dsimp only at w0 w1 w2 w3 w4 w5 w6 w7 w8 w9
  unfold ZX
  refine ze (λV => ?_) λV => ?_
  ·have V:=uC V
   have hn:nth f.2.1 (n:Int) (zb qe)∈f.2.1:=xj (Z) V
   have q1:=hF.2.1.2 _ hn
   have q2:=hp _ hn
   have hw:q9 ((n:Int)+1)=n+1:=qs (Z) (Z)
   refine qo ⟨Z,V⟩ (za ⟨q1.2.1,zA q2 (qh)⟩ λo ho => ?_)
   have q3:rl o<=max 1 (rl (nth f.2.1 (n:Int) (zb qe)).2.1):=ho.2.1
   repeat' (with_reducible first | refine z8 ?_ | refine zc ?_ | refine vS (Z) ?_ | refine zi (cu1 _ _) ?_ | refine zi (Kb _ _).symm ?_ | refine zd ?_)
   rw[hw]
   exact⟨⟨n+1,rfl,Z,w1,w2,⟨w3,w4⟩,⟨w0,w5⟩,⟨jl w6 ⟨ho.1,Z⟩,by show(_++[_]).length=_; rw[Kb]; omega⟩,w8,w9⟩,by simp only; omega⟩
  ·have V:=ga V
   have e:n=f.2.1.length:=Z
   repeat' (with_reducible first | refine z8 ?_ | refine zc ?_)
   exact zd ⟨w1,w2,⟨w3,w4⟩,⟨w0,w5⟩,⟨w6,by show a.length=_; omega⟩,w8,w9⟩
 rintro⟨u,v,c,d,e,g,h,i,j,k,l,m,a,b⟩ ⟨w1,w2,⟨w3,w4⟩,⟨w0,w5⟩,⟨w6,w7⟩,w8,w9⟩
 dsimp only at w0 w1 w2 w3 w4 w5 w6 w7 w8 w9
 repeat' (with_reducible first | refine z8 ?_ | refine zc ?_)
 refine xc (xp (P:=λz=>Nw f.1.length 0 0 f.2.1.length 0 z.2.2) ?_ ?_)
 ·unfold UD
  refine vY (λz:N15=>∃ k:Nat,z.1=(k:Int)/\k<=f.1.length/\Nw k 0 0 f.2.1.length 0 z.2.2.2) (λz:N15=>((f.1.length:Int)-z.1).toNat) ⟨0,rfl,Z,w1,w2,⟨w3,w4⟩,⟨w0,w5⟩,⟨w6,w7⟩,w8,w9⟩ ?_
  rintro⟨_,u,v,c,d,e,g,h,i,j,k,l,m,a,b⟩ ⟨n,rfl,h1,w1,w2,⟨w3,w4⟩,⟨w0,w5⟩,⟨w6,w7⟩,w8,w9⟩
  dsimp only at w0 w1 w2 w3 w4 w5 w6 w7 w8 w9
  unfold ZY
  refine ze (λV => ?_) λV => ?_
  ·have V:=uC V
   have hw:q9 ((n:Int)+1)=n+1:=qs (Z) (Z)
   refine qo ⟨Z,V⟩ ?_
   repeat' (with_reducible first | refine z8 ?_ | refine zc ?_ | refine vS (Z) ?_ | refine zi (cu1 _ _) ?_ | refine zi (Kb _ _).symm ?_ | refine zd ?_)
   rw[hw]
   exact⟨⟨n+1,rfl,Z,by show(_++[_]).length=_; rw[Kb]; omega,w2,⟨w3,w4⟩,⟨w0,w5⟩,⟨w6,w7⟩,w8,w9⟩,by simp only; omega⟩
  ·have V:=ga V
   have e':n=f.1.length:=Z
   repeat' (with_reducible first | refine z8 ?_ | refine zc ?_)
   exact zd ⟨by show e.length=_; omega,w2,⟨w3,w4⟩,⟨w0,w5⟩,⟨w6,w7⟩,w8,w9⟩
 clear w0 w1 w2 w3 w4 w5 w6 w7 w8 w9
 rintro⟨u,v,c,d,e,g,h,i,j,k,l,m,a,b⟩ ⟨w1,w2,⟨w3,w4⟩,⟨w0,w5⟩,⟨w6,w7⟩,w8,w9⟩
 dsimp only at w0 w1 w2 w3 w4 w5 w6 w7 w8 w9
 repeat' (with_reducible first | refine z8 ?_ | refine zc ?_)
 refine xc (xp (P:=λz=>Nw f.1.length f.2.2.2.1.length 0 f.2.1.length f.2.2.2.1.length z.2.2) ?_ ?_)
 ·unfold UE
  refine vY (λz:N15=>∃ k:Nat,z.1=(k:Int)/\k<=f.2.2.2.1.length/\Nw f.1.length k 0 f.2.1.length k z.2.2.2) (λz:N15=>((f.2.2.2.1.length:Int)-z.1).toNat) ⟨0,rfl,Z,w1,w2,⟨w3,w4⟩,⟨w0,w5⟩,⟨w6,w7⟩,w8,w9⟩ ?_
  rintro⟨_,u,v,c,d,e,g,h,i,j,k,l,m,a,b⟩ ⟨n,rfl,h1,w1,w2,⟨w3,w4⟩,⟨w0,w5⟩,⟨w6,w7⟩,w8,w9⟩
  dsimp only at w0 w1 w2 w3 w4 w5 w6 w7 w8 w9
  unfold ZZ
  refine ze (λV => ?_) λV => ?_
  ·have V:=uC V
   have hw:q9 ((n:Int)+1)=n+1:=qs (Z) (Z)
   refine za ⟨qh,qh⟩ λp hp=>vS (Z) (za ⟨qh,qh⟩ λq hq => ?_)
   repeat' (with_reducible first | refine z8 ?_ | refine zc ?_ | refine vS (Z) ?_ | refine zi (cu1 _ _) ?_ | refine zi (Kb _ _).symm ?_ | refine zd ?_)
   rw[hw]
   have hq1:rl q<=2:=hq.2
   exact⟨⟨n+1,rfl,Z,w1,by show(_++[_]).length=_; rw[Kb]; omega,⟨jl w3 ⟨hq.1,zA hq1 (qh)⟩,by show(_++[_]).length=_; rw[Kb]; omega⟩,⟨w0,w5⟩,⟨w6,w7⟩,jl w8 ⟨hp.1,Z⟩,by show(_++[_]).length=_; rw[Kb]; omega⟩,by simp only; omega⟩
  ·have V:=ga V
   have e:n=f.2.2.2.1.length:=Z
   repeat' (with_reducible first | refine z8 ?_ | refine zc ?_)
   exact zd ⟨w1,by show g.length=_; omega,⟨w3,by show i.length=_; omega⟩,⟨w0,w5⟩,⟨w6,w7⟩,w8,by show b.length=_; omega⟩
 clear w0 w1 w2 w3 w4 w5 w6 w7 w8 w9
 rintro⟨u,v,c,d,e,g,h,i,j,k,l,m,a,b⟩ ⟨w1,w2,⟨w3,w4⟩,⟨w0,w5⟩,⟨w6,w7⟩,w8,w9⟩
 dsimp only at w0 w1 w2 w3 w4 w5 w6 w7 w8 w9
 repeat' (with_reducible first | refine z8 ?_ | refine zc ?_)
 refine xc (xp (P:=λz=>Nw f.1.length f.2.2.2.1.length f.2.2.2.2.1.length f.2.1.length f.2.2.2.1.length z.2.2) ?_ ?_)
 ·unfold UF
  refine vY (λz:N15=>∃ k:Nat,z.1=(k:Int)/\k<=f.2.2.2.2.1.length/\Nw f.1.length f.2.2.2.1.length k f.2.1.length f.2.2.2.1.length z.2.2.2) (λz:N15=>((f.2.2.2.2.1.length:Int)-z.1).toNat) ⟨0,rfl,Z,w1,w2,⟨w3,w4⟩,⟨w0,w5⟩,⟨w6,w7⟩,w8,w9⟩ ?_
  rintro⟨_,u,v,c,d,e,g,h,i,j,k,l,m,a,b⟩ ⟨n,rfl,h1,w1,w2,⟨w3,w4⟩,⟨w0,w5⟩,⟨w6,w7⟩,w8,w9⟩
  dsimp only at w0 w1 w2 w3 w4 w5 w6 w7 w8 w9
  unfold Q0
  refine ze (λV => ?_) λV => ?_
  ·have V:=uC V
   have hw:q9 ((n:Int)+1)=n+1:=qs (Z) (Z)
   repeat' (with_reducible first | refine z8 ?_ | refine zc ?_ | refine vS (Z) ?_ | refine zi (cu1 _ _) ?_ | refine zi (Kb _ _).symm ?_ | refine zd ?_)
   rw[hw]
   exact⟨⟨n+1,rfl,Z,w1,w2,⟨w3,w4⟩,⟨jl w0 (qh),by show(_++[_]).length=_; rw[Kb]; omega⟩,⟨w6,w7⟩,w8,w9⟩,by simp only; omega⟩
  ·have V:=ga V
   have e:n=f.2.2.2.2.1.length:=Z
   repeat' (with_reducible first | refine z8 ?_ | refine zc ?_)
   exact zd ⟨w1,w2,⟨w3,w4⟩,⟨w0,by show k.length=_; omega⟩,⟨w6,w7⟩,w8,w9⟩
 clear w0 w1 w2 w3 w4 w5 w6 w7 w8 w9
 rintro⟨u,v,c,d,e,g,h,i,j,k,l,m,a,b⟩ ⟨w1,w2,⟨w3,w4⟩,⟨w0,w5⟩,⟨w6,w7⟩,w8,w9⟩
 dsimp only at w0 w1 w2 w3 w4 w5 w6 w7 w8 w9
 repeat' (with_reducible first | refine z8 ?_ | refine zc ?_)
 rw[dh,dh,dh,dh,dh,dh]
 refine za ⟨hF,⟨by show a.length<=_; omega,w6⟩,by show e.length<=_; omega,⟨by show b.length<=_; omega,w8⟩,by show k.length<=_; omega,⟨by show i.length<=_; omega,w3⟩,by show g.length<=_; omega,w0⟩ λr hr=>zfC (zd hr)⟩
open T PL
theorem mW{α A hl C:Type}{a:List A}{b:List hl}{c:List C}{t:T α}{Q:α->Prop}(k:t.wp Q):(oC a (oC b (oC c (W a (W b (W c t)))))).wp Q:=zc (zc (zc (z8 (z8 (z8 k)))))
theorem MO{α:Type}{a:List α}{i:Nat}{d:α}(h:i<a.length):wB a i d∈a:=by unfold wB; rw[List.getD_eq_getElem?_getD,List.getElem?_eq_getElem h]; exact List.getElem_mem h
instance (i:Int) (m:List Lf.Rat) (f:Form) (a:List vM) (b e:List Int):Sp (bD i m f a b e) (Bt f a b e/\0<=i/\i<a.length/\rs m) (λr=>∃ q,r=(q,f,a,b,e)):=⟨λ⟨⟨h1,X,h3,h4⟩,g0,g1,hv⟩=>by
 have hc:ck (wB a (0+i.toNat) (zb zq)):=h1.2 _ (MO (Z))
 have n1:=h1.1
 unfold bD
 refine qo ⟨g0,g1⟩ (zi ⟨rfl,Z⟩ (qo ⟨g0,Z⟩ (zi ⟨rfl,Z⟩ (ze (λ_=>za ⟨hc,hv⟩ λo _=>mW (zd ⟨o,rfl⟩)) λ_ => ?_))))
 refine xc (xp (P:=λz=>∃ q,z=(q,f,a,b,e,wB a (0+i.toNat) (zb zq))) (ze (λ_=>za ⟨hc.1.2,zA (Fg _) (zA hc.2.1 (qh))⟩ λq _=>mW (zd ⟨q,rfl⟩)) λ_=>mW (zd ⟨_,rfl⟩)) ?_)
 rintro _ ⟨q,rfl⟩
 dsimp only
 rw[dh,dh]
 have hB:Cw a/\b.length<=1000000:=⟨csw h1,Z⟩
 exact ze (λ_=>z8 (z8 (za hB λs _=>mW (zd ⟨s,rfl⟩)))) λ_=>ze (λ_=>z8 (z8 (za hB λs _=>mW (zd ⟨s,rfl⟩)))) λ_=>mW (zd ⟨_,rfl⟩)⟩
instance (a:Lf.Rat):Sp (cz a) (rg a/\rl a<=1700) (λr=>r=true->rl (norm a)<=16):=⟨λh=>by
 have h1:rl a<=5000000:=zA h.2 (qh)
 have X:rl a<=50000000:=zA h.2 (qh)
 unfold cz
 exact za ⟨h.1,h1⟩ λb _=>ze (λ_=>za ⟨h.1,X⟩ λc hc=>zd λe=>hc (by simpa using e)) λ_=>zd nofun⟩
instance (a:Lf.Rat):Sp (fQ a) (rg a/\rl a<=1700) (λ_=>True):=⟨λh=>by
 unfold fQ
 exact za h λb _=>zd trivial⟩
instance (a:wq):Sp (fR a) (Pn a) (λ_=>True):=⟨λh=>by
 have X:rl a.2.2.1<=50000000:=zA h.2 (qh)
 unfold fR JU
 exact za (s:=⟨λ_=>za h λb _=>ze (λ_=>ze (λ_=>zd trivial) λ_=>ze (λ_=>za ⟨h.1,X⟩ λc _=>zd trivial) λ_=>zd trivial) λ_=>zd trivial⟩) (pre:=True) (post:=λ_=>True) trivial λ_ _=>zd trivial⟩
instance (f:Form) (d:wo):Sp (Xr f d) (FW 8200 f/\Dw d) (λr=>r=true->Dx f d/\St f):=⟨λ⟨hF,hD⟩=>by
 unfold Xr
 refine za ⟨hF,hD⟩ λz hz => ?_
 have hv:d.2.2.1.length<=1000000000000:=zA hD.2.2.1.1 (qh)
 have hp:d.2.2.2.2.1.length<=1000000000000:=zA hD.2.2.2.2.1.1 (qh)
 rcases z with⟨k,a,b,c,e⟩ | ⟨n,m⟩
 ·obtain⟨rfl,rfl,hB,hV,f1,f2,l1,l2,l3,l4,l5,l6,-,hS⟩:=hz
  have hX:Dx a d:=⟨hD,hV,f1,f2,l1,l2,l3,l4,l5,l6⟩
  have n1:=hB.1.1
  have n2:=hB.2.1
  have n3:=hB.2.2.1
  refine wz rfl (za ⟨hv,hD.2.2.1.2⟩ λx _=>ze (λ_=>zd nofun) λ_=>za ⟨hp,hD.2.2.2.2.1.2⟩ λy _=>ze (λ_=>zd nofun) λ_=>mW ?_)
  refine xc (xp (P:=λz=>z=.inl (a,b,c,e)\/∃ w,z=.inr (false,w)) ?_ ?_)
  ·unfold BN
   refine vY (λz:Int×Form×List vM×List Int×List Int=>∃ i:Int,z=(i,a,b,c,e)/\0<=i/\i<=d.2.2.2.1.length) (λz:Int×Form×List vM×List Int×List Int=>((d.2.2.2.1.length:Int)-z.1).toNat) ⟨0,rfl,qh,Z⟩ ?_
   rintro _ ⟨i,rfl,i0,i1⟩
   unfold JS
   refine ze (λV => ?_) λV=>zc (zc (zc (z8 (z8 (z8 (zd (.inl rfl)))))))
   have V:=uC V
   have hw:q9 (i+1)=i+1:=qs (Z) (Z)
   refine qo ⟨i0,V⟩ (xc (xp (P:=λz=>∃ q,z=(q,a,b,c,e)) (ze (λ_=>z8 ?_) λ_=>mW (zd ⟨_,rfl⟩)) ?_))
   ·rw[dh]
    exact za (Z) λq _=>mW (zd ⟨_,rfl⟩)
   ·rintro _ ⟨q,rfl⟩
    refine ze (λ_=>mW (zd (.inr ⟨_,rfl⟩))) λ_=>mW (zd ?_)
    rw[hw]
    exact⟨⟨i+1,rfl,Z,Z⟩,by simp only; omega⟩
  ·rintro _ (rfl | ⟨w,rfl⟩)
   ·refine z8 (z8 ?_)
    rw[dh,dh]
    refine za ⟨csw hB.1,Z⟩ λn hn=>ze (λ_=>zd nofun) λ_=>mW ?_
    refine xc (xp (P:=λz=>True) ?_ λz _ => ?_)
    ·unfold BO
     refine vY (λz:Int×Form×List vM×List Int×List Int=>∃ i:Int,z=(i,a,b,c,e)/\0<=i/\i<=b.length) (λz:Int×Form×List vM×List Int×List Int=>((b.length:Int)-z.1).toNat) ⟨0,rfl,qh,Z⟩ ?_
     rintro _ ⟨i,rfl,i0,i1⟩
     unfold JT
     refine ze (λV=>mW ?_) λV=>mW (zd trivial)
     have V:=uC V
     have hw:q9 (i+1)=i+1:=qs (Z) (Z)
     refine za ⟨hB,i0,V,hD.2.2.1⟩ λ_ ⟨q,hq⟩ => ?_
     subst hq
     refine ze (λ_=>mW (zd trivial)) λ_=>mW (zd ?_)
     rw[hw]
     exact⟨⟨i+1,rfl,Z,Z⟩,by simp only; omega⟩
    ·rcases z with z | z
     ·exact zd λ_=>⟨hX,hS⟩
     ·exact zd λ_=>⟨hX,hS⟩
   ·exact zd nofun
 ·exact vD (by simpa using hz.1) (zd nofun)⟩
open T PL
theorem nz{p:Prop}{a:Int}(h:a≠0):a=0->p:=λq=>absurd q h
instance (a:Field) (s:zn):Sp (ev a s) True (λr=>r=xx a.1 s):=⟨λ_=>by unfold ev; exact zd rfl⟩
instance (f:Form) (s:zn):Sp (Zk f s) (f.2.2.2.1.length<=8200) (λr => -1<=r/\r<f.2.2.2.1.length/\(0<=r->fm f s)):=⟨λh=>by
 unfold Zk
 refine za ⟨Z,λ_ _=>trivial⟩ λr hr=>zd ?_
 rcases hr with⟨rfl,_⟩ | ⟨h1,X,h3⟩
 ·exact⟨qh,Z,λk=>Z⟩
 ·exact⟨Z,X,λ_=>.inr (.inl ⟨_,xj h1 X,by simpa[xx]using h3.symm⟩)⟩⟩
theorem z7a(a:ux)(h:Sys a)(b:Int):Sys (a.1,je (e:=zq) 0 b a.2.1,je (e:=.int .i64) 0 b a.2.2.1,je (e:=.int .i64) 0 b a.2.2.2.1,()):=by
 obtain⟨⟨h1,X⟩,h3,h4,h5⟩:=h
 exact⟨⟨zA (List.length_take_le' ..) h1,λc hc=>X c (zK hc)⟩,by show(R _ _).length=(R _ _).length; rw[zF,zF,h3],by show(R _ _).length=(R _ _).length; rw[zF,zF,h4],λi hi=>h5 i (zK hi)⟩
instance (f:Form) (d:wo) (s:zn) (v:Lf.Rat):Sp (UB f d s v) (FW 8200 f/\Dw d/\rg v/\rl v<=1700) (λr=>(r.2.2=0->Dx f r.1)/\r.2.1.length<=1/\∀ s∈r.2.1,fm f s):=⟨λ⟨hF,hD,hv⟩=>by
 unfold UB
 refine za hF.2.2.2.1.1 λi hi=>za ⟨hF,hD⟩ λy hy=>ze (λ_=>zd ⟨nz (a:=1) (qh),Y _,nofun⟩) λe=>ze (λ_=>zd ⟨nz (a:=5) (qh),Y _,nofun⟩) λe2=>za hv λz _=>ze (λ_=>zd ⟨nz (a:=8) (qh),zH _,λt ht=>by rw[zM.1 ht]; exact hi.2.2 (by have:=ga e2; omega)⟩) λ_=>za ⟨hF,hD⟩ λw hw => ?_
 have i0:=ga e2
 have hS:=(hy (by simpa using e)).2
 have hm:=hi.2.2 (Z)
 rcases w with⟨k,a,b,c,e⟩ | ⟨n,m⟩
 ·obtain⟨rfl,rfl,⟨b1,b2,b3,b4⟩,hV,f1,f2,l1,l2,l3,l4,l5,l6,l7,-⟩:=hw
  have i1:i<a.2.2.2.1.length:=hi.2.1
  have i2:0<=i:=Z
  have g1:a.2.2.2.1.length<=10000:=Z
  have g2:a.2.2.2.2.1.length<=10000:=Z
  refine wz rfl (mW (za ⟨hv,⟨b1,Z⟩,Z,Z,i2,i1,g1,g2,b4⟩ λ⟨a',p,q,r⟩ hr=>z8 (z8 (z8 ?_))))
  obtain⟨⟨r1,r2⟩,r3,⟨r4,r5⟩,r6⟩:=hr
  dsimp only at r1 r2 r3 r4 r5 r6
  subst r6
  rw[dh,dh,dh]
  refine za ⟨⟨r1,by show q.length=p.length; omega,by show r.length=p.length; omega,r5⟩,hD.2.2.1,g2,g1⟩ λ⟨A,hl,u,y⟩ hp => ?_
  dsimp only
  refine ze (λe=>zd ⟨nz (by simpa using e),hp.2⟩) λe => ?_
  obtain⟨p1,p2,p3,p4,p5,-⟩:=hp.1 (by simpa using e)
  dsimp only at p1 p2 p3 p4 p5
  have q1:y.2.1.length=b.length+1:=by rw[p5]; exact r2
  have q2:=p3.2.1
  have q3:=p3.2.2.1
  have q4:q9 ((y.2.1.length:Int)-1)=b.length:=by rw[q1]; exact(qs (Z) (Z)).trans (Z)
  rw[q4]
  refine qo ⟨Z,Z⟩ (ze (λ_=>zd ⟨nz (a:=11) (qh),zH _,λt ht=>by rw[zM.1 ht]; exact hm⟩) λ_=>zi ⟨Z,Z,Z⟩ (zi ⟨Z,Z,Z⟩ (zi ⟨Z,Z,Z⟩ (za ⟨z7a y p3 b.length,p1,by show y.1.2.2.2.2.1.length<=_; rw[p4]; exact g2,by show y.1.2.2.2.1.length<=_; rw[p4]; exact g1⟩ λ⟨C,D,v,κ'⟩ hq => ?_))))
  refine ze (λe=>zd ⟨nz (by simpa using e),hq.2.1,λt ht=>by have:=hq.2.2 t ht; dsimp only at this; rw[p4]at this; exact this⟩) λe => ?_
  obtain⟨s1,s2,s3,s4,-,s5,-⟩:=hq.1 (by simpa using e)
  dsimp only at s1 s2 s3 s4 s5
  rw[p4]at s4
  refine za ⟨hD,⟨s3,s5⟩,by rw[s4]; exact l2,by rw[s4]; exact l3⟩ λ_ hr => ?_
  obtain⟨o,ps,rfl,Bu,t1,t2,t3⟩:=hr
  refine qo ⟨i2,by show i<d.2.2.2.2.2.1.length; omega⟩ (zi ⟨rfl,by show 0+i.toNat<d.2.2.2.2.2.1.length; omega⟩ (z8 (z8 (z8 (z8 (z8 (zd ⟨λ_ => ?_,Y _,nofun⟩)))))))
  rw[dh,dh,dh,dh]
  have hs:(zI 0 (R (0+d.2.2.2.2.2.1.length) (List.set d.2.2.2.2.2.1 (0+i.toNat) true))).length=d.2.2.2.2.2.1.length:=qw
  have n4:=hD.2.2.2.1
  have n6:=hD.2.2.2.2.2.1
  exact⟨⟨hD.1,hD.2.1,s1,by show o.length<=_; omega,t2,by show(zI 0 (R (0+d.2.2.2.2.2.1.length) (List.set d.2.2.2.2.2.1 (0+i.toNat) true))).length<=_; omega,Bu⟩,hV,f1,f2,by show C.length=_; omega,by show o.length=_; omega,by show ps.length=_; omega,hs.trans l4,l5,l6⟩
 ·have hw:m≠0/\n.length<=1/\(St f->∀ s∈n,fm f s):=hw
  exact vD (by simpa using hw.1) (zd ⟨nz hw.1,hw.2.1,hw.2.2 hS⟩)⟩
open T PL
theorem zb0{α A hl C D κ' F:Type}{a:List A}{b:List hl}{c:List C}{d:List D}{e:List κ'}{f:List F}{t:T α}{Q:α->Prop}(k:t.wp Q):(oW a b c d e f t).wp Q :=
 z8 (z8 (z8 (z8 (z8 (z8 k)))))
instance (f:Form) (d:wo) (s:zn) (x:Bool):Sp (Q1 f d s x) (FW 8200 f/\Dw d) (λr=>(r.2.2=0->Dx f r.1)/\r.2.1.length<=1/\∀ s∈r.2.1,fm f s):=⟨λ⟨hF,hD⟩=>by
 unfold Q1
 refine za hF.2.2.2.1.1 λi hi=>za ⟨hF,hD⟩ λy hy=>ze (λ_=>zd ⟨nz (a:=1) (qh),Y _,nofun⟩) λe=>ze (λ_=>zd ⟨nz (a:=5) (qh),Y _,nofun⟩) λe2 => ?_
 have i0:=ga e2
 obtain⟨⟨-,hV,f1,f2,l1,l2,l3,l4,l5,l6⟩,hS⟩:=hy (by simpa using e)
 have JI:=hi.2.1
 have j1:0<=i/\i<(d.2.2.2.2.1.length:Int):=Z
 have j2:0<=i/\i<(d.2.2.1.length:Int):=Z
 refine zi (λ_=>j1) (ze (λ_=>zd ⟨nz (a:=1) (qh),Y _,nofun⟩) λ_=>zi (λ_=>j1) (ze (λ_=>zd ⟨nz (a:=12) (qh),Y _,nofun⟩) λ_=>za hD λ_ e => ?_))
 subst e
 refine za ⟨qh,qh⟩ λk hk => ?_
 have nN:rl k<=2:=hk.2
 have hv:=Eb hD.2.2.1 i j2.1 j2.2
 have hD5:=hD.2.2.2.2.1
 have q1:=CY d.2.2.2.2.1 (0+i.toNat) (false,false,(k.1,k.2.1,k.2.2.1,()),()) hD5 hk.1 (zA nN (qh))
 have q2:=CY _ (0+i.toNat) (true,false,((nth d.2.2.1 i (zb zm)).1,(nth d.2.2.1 i (zb zm)).2.1,(nth d.2.2.1 i (zb zm)).2.2.1,()),()) q1 hv.1 hv.2
 dsimp only
 refine qo j1 (zi ⟨rfl,Z⟩ (xc (xp (P:=λz=>∃ (w:wo) (ps:List wq),z=(w,d.1,d.2.1,d.2.2.1,d.2.2.2.1,ps,d.2.2.2.2.2.1,())/\Ps ps/\ps.length=d.2.2.2.2.1.length) (ze (λ_=>qo j2 (qo j1 (zi ⟨rfl,by rw[List.length_set]; omega⟩ ?_))) λ_ => ?_) ?_)))
 ·exact z8 (z8 (z8 (z8 (zi (by rw[List.length_set,List.length_set]) (z8 (zc (zc (zc (zc (zi ⟨by rw[List.length_set,List.length_set],rfl,by rw[List.length_set,List.length_set]⟩ (zc (zd ⟨_,_,rfl,q2,by rw[List.length_set,List.length_set]⟩))))))))))))
 ·exact z8 (z8 (z8 (z8 (zi (by rw[List.length_set]) (z8 (zc (zc (zc (zc (zi ⟨by rw[List.length_set],rfl,by rw[List.length_set]⟩ (zc (zd ⟨_,_,rfl,q1,by rw[List.length_set]⟩))))))))))))
 ·rintro _ ⟨w,ps,rfl,hp,Gq⟩
  dsimp only
  rw[dh,dh,dh,dh,dh,dh]
  refine zb0 (za ⟨hF,hD.1,hD.2.1,hD.2.2.1,hD.2.2.2.1,hp,hD.2.2.2.2.2⟩ λ⟨z,A,hl,r,s,t,u,v⟩ hr=>z8 (z8 (z8 (z8 (z8 (zd ?_))))))
  rw[dh,dh,dh,dh,dh]
  exact⟨λq=>(hr.1 q).1,hr.2.1,hr.2.2 hS⟩⟩
open T PL
instance (a b:List Int):Sp (jD a b) (a.length<=1000000) (λ_=>True):=⟨λh=>by
 unfold jD eN
 refine ze (λe=>zd trivial) λe => ?_
 have e:(a.length:Int)=b.length:=by simpa using e
 refine xc (xp (P:=λz=>True) ?_ λz hz => ?_)
 ·refine vY (σ:=Int) (λi=>0<=i/\i<=a.length) (λi=>(a.length-i).toNat) ⟨Z,Z⟩ λi hi => ?_
  unfold gD
  refine ze (λV => ?_) λV=>zd trivial
  have V:=uC V
  have hw:q9 (i+1)=i+1:=qs (Z) (Z)
  refine qo ⟨hi.1,V⟩ (qo ⟨hi.1,Z⟩ (ze (λk=>zd trivial) λk=>zd ?_))
  rw[hw]; exact⟨⟨Z,Z⟩,Z⟩
 ·rcases z with z | z<;>exact zd trivial⟩
theorem z0n{a:Lf.Rat}:a.2.1.length<=rl a/\a.2.2.1.length<=rl a:=by unfold rl; omega
instance (a b:Lf.Rat):Sp (XX a b) (rg a/\rg b/\rl a<=20700/\rl b<=20700) (λ_=>True):=⟨λ⟨h1,X,h3,h4⟩=>by
 unfold XX
 refine za ⟨h1,zA h3 (qh)⟩ λx U=>za ⟨X,zA h4 (qh)⟩ λy _=>ze (λ_ => ?_) λ_=>zd trivial
 have l1:=(z0n (a:=x)).1
 have l2:=(z0n (a:=x)).2
 have l3:=U.2.1
 exact za (Z) λc _=>ze (λ_=>za (Z) λd _=>zd trivial) λ_=>zd trivial⟩
instance (a b:vM):Sp (Uq a b) (ck a/\ck b) (λ_=>True):=⟨λ⟨ha,J⟩=>by
 have ka:=zA (Fg a) ha.2.1
 have kb:=zA (Fg b) J.2.1
 unfold Uq
 refine ze (λ_=>za ⟨ha.1.2,J.1.2,ka,kb⟩ λc _=>ze (λ_=>xc (xp (P:=λ_=>True) ?_ λ_ _=>zd trivial)) λ_=>zd trivial) λ_=>zd trivial
 unfold jC yI
 refine ze (λe=>zd trivial) λe => ?_
 have e:(a.2.1.length:Int)=b.2.1.length:=by simpa using e
 have n1:=ha.2.2
 refine xc (xp (P:=λz=>True) ?_ λz hz => ?_)
 ·refine vY (σ:=Int) (λi=>0<=i/\i<=a.2.1.length) (λi=>(a.2.1.length-i).toNat) ⟨Z,Z⟩ λi hi => ?_
  unfold uY
  refine ze (λV => ?_) λV=>zd trivial
  have V:=uC V
  have hw:q9 (i+1)=i+1:=qs (Z) (Z)
  have m1:nth a.2.1 i (zb qk)∈a.2.1:=xj hi.1 V
  have m2:nth b.2.1 i (zb qk)∈b.2.1:=xj hi.1 (Z)
  have c1:tb a.2.1<=cb a:=by unfold cb; omega
  have c2:tb b.2.1<=cb b:=by unfold cb; omega
  have r1:=zA (zA (Wd m1) c1) ha.2.1
  have r2:=zA (zA (Wd m2) c2) J.2.1
  refine qo ⟨hi.1,V⟩ (qo ⟨hi.1,Z⟩ (xc (xp (P:=λ_=>True) ?_ λd _=>ze (λk=>zd trivial) λk=>zd ?_)))
  ·unfold nB
   exact ze (λ_=>za ⟨ha.1.1 _ m1,J.1.1 _ m2,r1,r2⟩ λc _=>zd trivial) λ_=>zd trivial
  ·rw[hw]; exact⟨⟨Z,Z⟩,Z⟩
 ·rcases z with z | z<;>exact zd trivial⟩
open T PL
abbrev X5:=List Lf.Rat×List Bool×List Lf.Rat×List wq×List Bool×Unit
abbrev xd(x:X5)(a:List Int):wo:=(x.1,x.2.1,x.2.2.1,a,x.2.2.2.1,x.2.2.2.2.1,())
instance (f:Form) (d:X5) (rw:List Int):Sp (eX f d rw) (FW 8200 f/\Dw (xd d rw)) (λr=>match r with | .inl (k,y,a,b,c,e)=>k=0/\y=rw/\a=f/\Bt f b c e | .inr (n,k,_)=>k≠0/\n.length<=1/\(St f->∀ s∈n,fm f s)):=⟨λ⟨hF,hD⟩=>by
 unfold eX
 rw[dh]
 refine z8 (za trivial λo ho=>ze (λ_=>z8 (zd ⟨qh,Y _,nofun⟩)) λe => ?_)
 have ho:d.2.2.1.length=f.2.2.2.1.length/\rw.length=f.2.2.2.2.1.length/\d.2.2.2.1.length=f.2.2.2.1.length/\d.2.2.2.2.1.length=f.2.2.2.1.length:=ho (by simpa using e)
 have hPn:Ps d.2.2.2.1:=hD.2.2.2.2.1
 refine za ⟨hF,hD.1,hD.2.1⟩ λ⟨p,n,k,g,b⟩ hz=>ze (λe=>z8 (zd ⟨by simpa using(zG.1 e).1,zH _,λhs s hm=>zc9 hz.2.2.2.2.2 hs (zG.1 e).2 hm⟩)) λ_=>ze (λe=>z8 (zd ⟨by simpa using e,Y _,nofun⟩)) λe => ?_
 obtain⟨hg,J,hgb,hg64,hz,-⟩:=hz
 obtain⟨hV,h1,X,h3,h4,-⟩:=hz (by simpa using e)
 dsimp only at hg J hgb hg64
 refine zc (z8 (zc (z8 (z8 (zc (zi ⟨rfl,rfl,rfl⟩ (zc (zi rfl (xc (xp (P:=λz=>∃ c:List Int,z=(rw,d,g,b,(),f,c)/\c.length=b.length) ?_ ?_))))))))))
 ·unfold Zi
  refine vY (λz:Int×List Int×X5×List vM×List Int×Unit×Form×List Int=>∃ (i:Int) (c:List Int),z=(i,rw,d,g,b,(),f,c)/\0<=i/\i<=b.length/\(c.length:Int)=i) (λz:Int×List Int×X5×List vM×List Int×Unit×Form×List Int=>((b.length:Int)-z.1).toNat) ⟨0,[],rfl,qh,Z,rfl⟩ ?_
  rintro _ ⟨i,c,rfl,i0,i1,hc⟩
  unfold mA
  refine ze (λV => ?_) λV => ?_
  ·have V:=uC V
   have hn:=DK _ _ (0+i.toNat) J (Z)
   have hw:q9 (i+1)=i+1:=qs (Z) (Z)
   have Yk:wB b (0+i.toNat) (zb (.int .i64))<rw.length:=by have:=hn.2; have:=ho.2.1; omega
   refine qo ⟨i0,V⟩ (zi ⟨rfl,Z⟩ (qo ⟨hn.1,Yk⟩ (zi ⟨rfl,Z⟩ (vS (Z) (zc (z8 (zc (z8 (z8 (zc (zi (cu1 _ _) (zc (zi (Kb _ _).symm (zd ?_))))))))))))))
   rw[hw]
   exact⟨⟨i+1,_,rfl,Z,Z,by rw[Kb]; omega⟩,by simp only; omega⟩
  ·have V:=ga V
   exact z8 (zc (z8 (z8 (zc (zc (zc (z8 (zd ⟨c,rfl,Z⟩))))))))
 ·rintro _ ⟨c,rfl,hc⟩
  refine z8 (zc (z8 (z8 (zc (zc (zc (z8 (xc (xp (P:=λz=>∃ (x:List vM) (y q:List Int),z=(rw,d,x,y,(),f,q)/\Bt f x q y) ?_ ?_)))))))))
  ·unfold Zj
   have hP3:=ho.2.2.1
   refine vY (λz:Int×List Int×X5×List vM×List Int×Unit×Form×List Int=>∃ (i:Int) (x:List vM) (y q:List Int),z=(i,rw,d,x,y,(),f,q)/\0<=i/\i<=d.2.2.2.1.length/\Bt f x q y/\(x.length:Int)<=64+i) (λz:Int×List Int×X5×List vM×List Int×Unit×Form×List Int=>((d.2.2.2.1.length:Int)-z.1).toNat) ⟨0,_,_,_,rfl,qh,Z,⟨hg,Z,Z,zbO _ _ _ J (Z)⟩,Z⟩ ?_
   rintro _ ⟨i,x,y,c,rfl,i0,i1,hB,U⟩
   obtain⟨b1,b2,b3,b4⟩:=hB
   unfold mB
   refine ze (λV => ?_) λV => ?_
   ·have V:=uC V
    have hp:=LB d.2.2.2.1 i hPn i0 V
    have hw:q9 (i+1)=i+1:=qs (Z) (Z)
    refine qo ⟨i0,V⟩ (ze (λ_=>z8 (zc (z8 (z8 (zc (zc (zc (z8 (zd ?_))))))))) λ_ => ?_)
    ·rw[hw]
     exact⟨⟨i+1,_,_,_,rfl,Z,Z,⟨b1,b2,b3,b4⟩,Z⟩,by simp only; omega⟩
    ·have q1:i<f.2.2.2.1.length:=Z
     have q2:f.2.2.2.1.length<=10000:=Z
     have q3:f.2.2.2.2.1.length<=10000:=Z
     refine mW (za ⟨hp,⟨b1,Z⟩,Z,Z,i0,q1,q2,q3,b4⟩ λ⟨e,p,q,r⟩ hr=>z8 (zc (z8 (z8 (zc (zc (zc (z8 (zd ?_)))))))))
     obtain⟨⟨r1,r2⟩,r3,⟨r4,r5⟩,r6⟩:=hr
     dsimp only at r1 r2 r3 r4 r5 r6
     subst r6
     rw[hw]
     exact⟨⟨i+1,p,r,q,rfl,Z,Z,⟨r1,Z,Z,r5⟩,Z⟩,by simp only; omega⟩
   ·exact z8 (zc (z8 (z8 (zc (zc (zc (z8 (zd ⟨x,y,c,rfl,b1,b2,b3,b4⟩))))))))
  ·rintro _ ⟨x,y,q,rfl,hB⟩
   exact z8 (mW (zd ⟨rfl,rfl,rfl,hB⟩))⟩
open T PL
instance (b:List Int) (c:Int):Sp (uM b c) (b.length<=1000000) (λr=>r<b.length):=⟨λh=>by
 unfold uM yA
 refine xc (xp (P:=λz:Unit⊕Int=>z.elim (λ_=>True) λr:Int=>r<(b.length:Int)) ?_ λz hz => ?_)
 ·refine vY (σ:=Int) (λi=>0<=i/\i<=b.length) (λi=>(b.length-i).toNat) ⟨Z,Z⟩ λi hi => ?_
  unfold yB
  refine ze (λV => ?_) λV=>zd trivial
  have V:=uC V
  have hw:q9 (i+1)=i+1:=qs (Z) (Z)
  refine qo ⟨hi.1,V⟩ (ze (λk=>zd V) λk=>zd ?_)
  rw[hw]; exact⟨⟨Z,Z⟩,Z⟩
 ·rcases z with z | z
  ·exact zd (by show(-1:Int)<_; omega)
  ·exact zd hz⟩
abbrev Z12:=Int×List Int×X5×wo×Form×List vM×List Int×List Int×Form×List vM×List Int×List Int
theorem zb2{α A:Type}{f:List A}{a b:List vM}{g c h d:List Int}{t:T α}{Q:α->Prop}(k:t.wp Q):(W f (oC f (oC a (oC g (oC c (W a (W g (W c (oC b (oC h (oC d (W b (W h (W d t)))))))))))))).wp Q :=
 z8 (zc (mW (mW k)))
instance (f:Form) (d:wo) (u:Unit) (a1:List Lf.Rat) (a2:List Bool) (a3:List Lf.Rat) (a4:List Int) (a5:List wq) (a6:List Bool):Sp (iH f d u a1 a2 a3 a4 a5 a6) (FW 8200 f/\Dw d/\Dw (a1,a2,a3,a4,a5,a6,())) (λr=>(r.2.2.1=0->Dx f (D8 r))/\r.2.1.length<=1/\(St f->∀ s∈r.2.1,fm f s)):=⟨λ⟨hF,hD,hE⟩=>by
 unfold iH
 rw[dh,dh,dh,dh,dh]
 dsimp only
 refine za ⟨hF,hD⟩ λz hz => ?_
 have hE':Dw (xd (a1,a2,a3,a5,a6,()) a4):=hE
 rcases z with⟨k,a,b,c,e⟩ | ⟨n,m⟩
 ·obtain⟨rfl,rfl,⟨b1,b2,b3,b4⟩,-⟩:=hz
  refine wz rfl (z8 (z8 (z8 (z8 (z8 (zc (z8 (za ⟨hF,hE'⟩ λw hw => ?_))))))))
  rcases w with⟨k,y,v,b',c',e'⟩ | ⟨n,m,x⟩
  ·obtain⟨rfl,rfl,rfl,⟨d1,d2,d3,d4⟩⟩:=hw
   have n1:=b1.1
   have n2:=d1.1
   have n4:y.length<=1000000000:=hE.2.2.2.1
   refine wz rfl (z8 (zi ⟨rfl,rfl,rfl⟩ (mW (mW (xc (xp (P:=λz=>∃ (o:List Int) (w:wo),z=(o,(a1,a2,a3,a5,a6,()),w,v,b,c,e,v,b',c',e')/\ou o/\o.length=y.length) ?_ ?_))))))
   ·unfold QX
    refine vY (λz:Z12=>∃ (i:Int) (o:List Int) (w:wo),z=(i,o,(a1,a2,a3,a5,a6,()),w,v,b,c,e,v,b',c',e')/\(ou o/\o.length=y.length)/\0<=i/\i<=y.length) (λz:Z12=>((y.length:Int)-z.1).toNat) ⟨0,_,_,rfl,⟨hE.2.2.2.2.2.2,rfl⟩,qh,Z⟩ ?_
    rintro _ ⟨i,o,w,rfl,⟨hoo,ho⟩,i0,i1⟩
    unfold oz
    dsimp only
    refine ze (λV=>z8 ?_) λV=>zb2 (zd ⟨o,w,rfl,hoo,ho⟩)
    have V:=uC V
    have hw:q9 (i+1)=i+1:=qs (Z) (Z)
    rw[dh]
    refine za (Z) λv1 hv1=>z8 ?_
    rw[dh]
    refine za (Z) λv2 HP=>xc (xp (P:=λz=>∃ q:Bool,z=(q,o,(a1,a2,a3,a5,a6,()),w,v,b,c,e,v,b',c',e')) (ze (λ_=>zb2 (zd ⟨_,rfl⟩)) λg1=>ze (λ_=>zb2 (zd ⟨_,rfl⟩)) λg2 => ?_) ?_)
    ·have g1:=ga g1
     have g2:=ga g2
     refine qo ⟨Z,Z⟩ (zi ⟨rfl,Z⟩ (qo ⟨Z,Z⟩ (zi ⟨rfl,Z⟩ (za ⟨b1.2 _ (MO (Z)),d1.2 _ (MO (Z))⟩ λq _=>zb2 (zd ⟨_,rfl⟩)))))
    ·rintro _ ⟨q,rfl⟩
     dsimp only
     refine ze (λ_=>qo ⟨i0,Z⟩ (zi ⟨rfl,Z⟩ (zi (by rw[List.length_set]) (zi ⟨by rw[List.length_set],rfl,by rw[List.length_set]⟩ (mW (mW (zd ?_))))))) λ_=>z8 (zc (mW (mW (zd ?_))))
     ·rw[hw]
      exact⟨⟨i+1,_,w,rfl,⟨N4 hoo _ (qh),by rw[List.length_set]; exact ho⟩,Z,Z⟩,by simp only; omega⟩
     ·rw[hw]
      exact⟨⟨i+1,o,w,rfl,⟨hoo,ho⟩,Z,Z⟩,by simp only; omega⟩
   ·rintro _ ⟨o,w,rfl,hoo,ho⟩
    dsimp only
    rw[dh]
    exact z8 (za ⟨hF,hE.1,hE.2.1,hE.2.2.1,by show o.length<=_; omega,hE.2.2.2.2.1,hE.2.2.2.2.2.1,hoo⟩ λr hr=>zfC (zd ⟨λq=>(hr.1 q).1,hr.2⟩))
  ·have hw:m≠0/\n.length<=1/\(St _->∀ s∈n,fm _ s):=hw
   exact vD (by simpa using hw.1) (zb1 (zd ⟨nz hw.1,hw.2⟩))
 ·have hz:m≠0/\n.length<=1/\(St f->∀ s∈n,fm f s):=hz
  exact vD (by simpa using hz.1) (zb1 (zd ⟨nz hz.1,hz.2⟩))⟩
instance (a:Param) (s:zn):Sp (gK a s) True (λr=>r=xx a.1 s):=⟨λ_=>by unfold gK; exact zd rfl⟩
instance (a:Switch) (s:zn):Sp (yK a s) True (λ_=>True):=⟨λ_=>by unfold yK; exact zd trivial⟩
theorem D8e{z:List Lf.Rat×Unit}{w:List zn}{x:Int}{h:List Lf.Rat}{i:List Bool}{j:List Int}{k:List wq}{l:List Bool}{Q:wo×List zn×Int->Prop}(hr:Q ((h,i,z.1,j,k,l,()),w,x)):(W h (W i (W j (W k (W l (T.ret ((zI 0 (R (0+h.length) h),zI 0 (R (0+i.length) i),z.1,zI 0 (R (0+j.length) j),zI 0 (R (0+k.length) k),zI 0 (R (0+l.length) l),()),w,x))))))).wp Q:=by
 rw[dh,dh,dh,dh,dh]
 exact z8 (z8 (z8 (z8 (z8 (zd hr)))))
instance (f:Form) (d:wo) (s:zn) (v:Lf.Rat):Sp (pC f d s v) (FW 8200 f/\Dw d/\rg v/\rl v<=1700) (λr=>(r.2.2=0->Dx f r.1)/\r.2.1.length<=1/\∀ s∈r.2.1,fm f s):=⟨λ⟨hF,hD,hv⟩=>by
 unfold pC
 refine za ⟨by have:=hF.2.1.1; omega,λ_ _=>trivial⟩ λi hi=>za ⟨hF,hD⟩ λy hy=>ze (λ_=>zd ⟨nz (a:=1) (qh),Y _,nofun⟩) λe=>ze (λ_=>zd ⟨nz (a:=5) (qh),Y _,nofun⟩) λe2=>za hv λz _=>ze (λ_=>zd ⟨nz (a:=8) (qh),zH _,λt ht=>by rw[zM.1 ht]; have:=ga e2; rcases hi with⟨h,_⟩ | ⟨h1,X,h3⟩; omega; exact .inl ⟨_,xj h1 X,by simpa[xx]using h3.symm⟩⟩) λ_=>za hD λ_ e3=>za ⟨hv.1,zA hv.2 (qh)⟩ λn hn => ?_
 subst e3
 have i0:=ga e2
 obtain⟨⟨-,hV,f1,f2,l1,l2,l3,l4,l5,l6⟩,hS⟩:=hy (by simpa using e)
 have JI:i<f.2.1.length:=by rcases hi with⟨h,_⟩ | ⟨_,h,_⟩<;>omega
 have Dz:=hn.2.1
 have j1:0<=i/\i<(d.1.length:Int):=Z
 have hs:=Ec d.1 (0+i.toNat) n hD.1 hn.1 (Z)
 dsimp only
 exact qo j1 (zi ⟨rfl,Z⟩ (zi ⟨by rw[List.length_set],rfl,by rw[List.length_set]⟩ (zc (zc (zc (zc (zc (zi (by rw[List.length_set]) (z8 (z8 (z8 (z8 (z8 (za ⟨hF,hD,hs,hD.2⟩ λ⟨z,w,x,h,i,j,k,l⟩ hr=>D8e ⟨hr.1,hr.2.1,hr.2.2 hS⟩))))))))))))))⟩
instance (f:Form) (d:wo) (s:zn) (v:Bool):Sp (ng f d s v) (FW 8200 f/\Dw d) (λr=>(r.2.2=0->Dx f r.1)/\r.2.1.length<=1/\∀ s∈r.2.1,fm f s):=⟨λ⟨hF,hD⟩=>by
 unfold ng
 refine za ⟨by have:=hF.1.1; omega,λ_ _=>trivial⟩ λi hi=>za ⟨hF,hD⟩ λy hy=>ze (λ_=>zd ⟨nz (a:=1) (qh),Y _,nofun⟩) λe=>ze (λ_=>zd ⟨nz (a:=5) (qh),Y _,nofun⟩) λe2=>za hD λ_ e3 => ?_
 subst e3
 have i0:=ga e2
 obtain⟨⟨-,hV,f1,f2,l1,l2,l3,l4,l5,l6⟩,hS⟩:=hy (by simpa using e)
 have JI:i<f.1.length:=by rcases hi with⟨h,_⟩ | ⟨_,h,_⟩<;>omega
 have j1:0<=i/\i<(d.2.1.length:Int):=Z
 dsimp only
 exact qo j1 (zi ⟨rfl,Z⟩ (zc (zi ⟨by rw[List.length_set],rfl,by rw[List.length_set]⟩ (zc (zc (zc (zc (z8 (zi (by rw[List.length_set]) (z8 (z8 (z8 (z8 (za ⟨hF,hD,hD.1,by show(List.set d.2.1 _ v).length<=_; rw[List.length_set]; exact hD.2.1,hD.2.2⟩ λ⟨z,w,x,h,i,j,k,l⟩ hr=>D8e ⟨hr.1,hr.2.1,hr.2.2 hS⟩))))))))))))))⟩
open T PL
instance (a:Switch) (s:ct):Sp (yM a s) True (λ_=>True):=⟨λ_=>by unfold yM; exact zd trivial⟩
instance (a:ct) (s:zn):Sp (eF a s) True (λ_=>True):=⟨λ_=>by unfold eF; exact zd trivial⟩
instance (f:Form) (l:List Bool):Sp (kB f l) (FW 8200 f) (λr=>r.length=f.2.2.1.length):=⟨λhF=>by
 have n1:=hF.1.1
 have n2:=hF.2.2.1.1
 unfold kB Zy
 refine zi ⟨rfl,rfl,rfl⟩ (zi rfl (xc (xp (P:=λz=>z.length=f.2.2.1.length) ?_ λz hz=>z8 (zd (by rw[dh]; exact hz)))))
 refine vY (σ:=Int×List Bool) (λz=>0<=z.1/\z.1<=f.2.2.1.length/\(z.2.length:Int)=z.1) (λz=>(f.2.2.1.length-z.1).toNat) ⟨qh,Z,rfl⟩ ?_
 rintro⟨i,a⟩ ⟨i0,i1,B⟩
 dsimp only at i0 i1 B
 unfold mP
 refine ze (λV => ?_) λV=>zc (z8 (zd (by have:=ga V; show a.length=_; omega)))
 have V:=uC V
 have hw:q9 (i+1)=i+1:=qs (Z) (Z)
 have fin:∀ b:Bool,(oA a 1 (oM (a.length+1) (a++[b]).length (T.ret (.inl (q9 (i+1),a++[b])):T ((Int×List Bool)⊕List Bool)))).wp λz=>match z with | .inl s'=>(0<=s'.1/\s'.1<=f.2.2.1.length/\(s'.2.length:Int)=s'.1)/\(f.2.2.1.length-s'.1).toNat<(f.2.2.1.length-i).toNat | .inr y=>y.length=f.2.2.1.length:=λb=>by
  refine vS (Z) (uz (Kb _ _).symm (zd ?_))
  rw[hw]
  exact⟨⟨by show 0<=i+1; omega,by show i+1<=_; omega,by show((a++[b]).length:Int)=i+1; rw[Kb]; omega⟩,by simp only; omega⟩
 refine qo ⟨i0,V⟩ (za ⟨Z,λ_ _=>trivial⟩ λc _=>ze (λ_=>fin _) λ_=>ze (λh0=>ze (λh1=>qo ⟨uC h0,uC h1⟩ (fin _)) λ_=>fin _) λ_=>fin _)⟩
def pl(i:Int):Prop:=0<=i/\i<=8200
theorem O3(l:List Bool)(a:Int)(ha:pl a):∀ n:Nat,n<=8200->pl (oi l a n).1
 | 0,_=>ha
 | n+1,h=>by
  unfold oi
  split
  ·exact⟨by show(0:Int)<=n; omega,by show(n:Int)<=8200; omega⟩
  ·exact O3 l a ha n (Z)
instance (f:Form) (l:List Bool) (a:Int):Sp (rm f l a) (FW 8200 f/\pl a) (λr=>pl r.1):=⟨λ⟨hF,ha⟩=>by
 have n2:=hF.2.2.1.1
 unfold rm
 exact za hF λr hr=>zi (Z) (zd (O3 r a ha _ (Z)))⟩
instance (f:Form) (l:List Bool) (a:Int):Sp (rq f l a) (FW 8200 f/\pl a) (λr=>pl r.1):=⟨λ⟨hF,ha⟩=>by
 have n2:=hF.2.2.1.1
 unfold rq Ji
 refine za hF λr hr=>xc (xp (P:=λz:Unit⊕(Int×Bool)=>z.elim (λ_=>True) λr=>pl r.1) ?_ λz hz => ?_)
 ·refine vY (σ:=Int) (λi=>0<=i/\i<=r.length) (λi=>(r.length-i).toNat) ⟨Z,Z⟩ λi hi => ?_
  unfold Qp
  refine ze (λV => ?_) λV=>zd trivial
  have V:=uC V
  have hw:q9 (i+1)=i+1:=qs (Z) (Z)
  refine qo ⟨hi.1,V⟩ (ze (λk=>zd ⟨hi.1,by show i<=8200; omega⟩) λk=>zd ?_)
  rw[hw]; exact⟨⟨Z,Z⟩,Z⟩
 ·rcases z with z | z
  ·exact zd ha
  ·exact zd hz⟩
instance (f:Form) (l:List Bool) (a:Int):Sp (Zx f l a) (FW 8200 f/\pl a) (λr=>pl r):=⟨λ⟨hF,ha⟩=>by
 unfold Zx
 refine za hF λr hr=>zi (λh0 h1=>⟨uC h0,uC h1⟩) (ze (λ_=>zd ha) λ_=>za ⟨hF,ha⟩ λx U=>ze (λ_=>zd U) λ_=>za ⟨hF,ha⟩ λy hy=>ze (λ_=>zd hy) λ_=>zd ⟨qh,qh⟩)⟩
instance (f:Form) (l:List Bool) (s:zn):Sp (WI f l s) (FW 8200 f) (λr=>r.2=0->pl r.1):=⟨λhF=>by
 have n2:=hF.2.2.1.1
 unfold WI
 refine za ⟨Z,λ_ _=>trivial⟩ λi hi=>ze (λ_=>zd (nz (a:=5) (qh))) λh0=>za hF λr hr => ?_
 have h0:=ga h0
 have h1:i<f.2.2.1.length:=by rcases hi with⟨h,_⟩ | ⟨_,h,_⟩<;>omega
 exact qo ⟨Z,Z⟩ (ze (λ_=>zd (nz (a:=12) (qh))) λ_=>zd λ_=>⟨by show 0<=i; omega,by show i<=8200; omega⟩)⟩
def sL(l:List zn):Prop:=∀ s∈l,s.length<=1000000000
def Hw(h:dW):Prop:=h.1.length+h.2.1.length<=32/\sL h.1/\sL h.2.1
instance (l:List zn):Sp (wT l) (l.length<=1000) (λr=>r=l):=⟨λh=>by
 unfold wT
 refine zi (λe r h => ?_) (zi ⟨rfl,rfl,rfl,Z⟩ (uz (Z) (zd rfl)))
 subst e
 exact⟨⟨rfl,rfl,rfl⟩,rfl,h.2.2.2⟩⟩
instance (l:List zn):Sp (wS l) (l.length<=1000) (λr=>r=l):=⟨λh=>by
 unfold wS
 dsimp only
 refine zi (λe r h => ?_) (zi ⟨rfl,rfl,rfl,Z⟩ (zi rfl (zd (by rw[Nat.zero_add]; exact dh l))))
 subst e
 exact h.2.2⟩
instance (h:dW) (s:zn):Sp (Wv h s) (Hw h/\s.length<=1000000000) (λr=>Hw r/\r.1.length=min 32 (h.1.length+1)/\r.2.1.length=0):=⟨λ⟨⟨h1,X,h3⟩,hs⟩=>by
 unfold Wv
 refine za (Z) λc hc => ?_
 subst hc
 dsimp only
 have B:∀ n:Nat,n<=33->∃ k:Nat,iA 0 (q9 ((n:Int)-32))=k/\k<=n/\n-k=min 32 n:=λn hn=>by
  rw[qs (Z) (Z)]
  unfold iA
  split
  ·exact⟨n-32,Z,Z,Z⟩
  ·exact⟨0,Z,Z,Z⟩
 obtain⟨k,k1,k2,k3⟩:=B (h.1.length+1) (Z)
 rw[k1]
 refine vS (Z) (zi ⟨Z,Z,Z⟩ (zi rfl (zd ⟨⟨?_,λx U => ?_,nofun⟩,?_,rfl⟩)))
 ·show(zI _ (R _ _)).length+0<=32
  rw[zO,zF]
  omega
 ·rcases List.mem_append.1 (zK (zR U))with q | q
  ·exact X x q
  ·rw[zM.1 q]; exact hs
 ·show(zI _ (R _ _)).length=_
  rw[zO,zF,Kb]
  omega⟩
instance (b f:List zn) (s:zn):Sp (Zq b f s) (1<=b.length/\b.length+f.length<=32/\sL b/\sL f/\s.length<=1000000000) (λr=>r.1.length+1=b.length/\r.2.1.length=f.length+1/\sL r.1/\sL r.2.1/\r.2.2.length<=1000000000):=⟨λ⟨h0,h1,X,h3,h4⟩=>by
 have hw:q9 ((b.length:Int)-1)=((b.length-1:Nat):Int):=by rw[qs (Z) (Z)]; omega
 unfold Zq
 rw[hw]
 have hc:(je (e:=.str) 0 ((b.length-1:Nat):Int) b)=b.take (b.length-1):=rfl
 have B:(b.take (b.length-1)).length=b.length-1:=by rw[zF]; omega
 refine zi ⟨qh,Z,Z⟩ (za (by rw[hc]; omega) λx U=>za (Z) λy hy => ?_)
 subst U hy
 refine vS (Z) (qo ⟨Z,Z⟩ (z8 (zi rfl (zd ?_))))
 rw[dh,hc]
 have e2:zI 0 (R (0+(y.length+1)) (y++[s]))=y++[s]:=by rw[<- Kb y s]; exact dh _
 rw[e2]
 refine⟨by show(b.take _).length+1=_; omega,Kb _ _,λx U=>X x (zK U),jl h3 h4,X _ (xj (Z) (Z))⟩⟩
instance (h:dW) (s:zn):Sp (Zp h s) (Hw h/\s.length<=1000000000) (λr=>(Hw r.1/\r.2.1.length<=1000000000)/\(r.2.2=true->r.1.1.length+1=h.1.length/\r.1.2.1.length=h.2.1.length+1)):=⟨λ⟨⟨h1,X,h3⟩,hs⟩=>by
 unfold Zp
 refine ze (λ_=>za (Z) λx U=>za (Z) λy hy=>zd ?_) λe=>za ⟨by have:=beq_eq_false_iff_ne.1 e; omega,h1,X,h3,hs⟩ λz hz=>zd ?_
 ·subst U hy; exact⟨⟨⟨h1,X,h3⟩,Y _⟩,nofun⟩
 ·exact⟨⟨⟨by show z.1.length+z.2.1.length<=32; omega,hz.2.2.1,hz.2.2.2.1⟩,hz.2.2.2.2⟩,λ_=>⟨hz.1,hz.2.1⟩⟩⟩
instance (h:dW) (s:zn):Sp (Zo h s) (Hw h/\s.length<=1000000000) (λr=>(Hw r.1/\r.2.1.length<=1000000000)/\(r.2.2=true->r.1.1.length=h.1.length+1/\r.1.2.1.length+1=h.2.1.length)):=⟨λ⟨⟨h1,X,h3⟩,hs⟩=>by
 unfold Zo
 refine ze (λ_=>za (Z) λx U=>za (Z) λy hy=>zd ?_) λe=>za ⟨by have:=beq_eq_false_iff_ne.1 e; omega,Z,h3,X,hs⟩ λz hz=>zd ?_
 ·subst U hy; exact⟨⟨⟨h1,X,h3⟩,Y _⟩,nofun⟩
 ·exact⟨⟨⟨by show z.2.1.length+z.1.length<=32; omega,hz.2.2.2.1,hz.2.2.1⟩,hz.2.2.2.2⟩,λ_=>⟨hz.2.1,hz.1⟩⟩⟩
open T PL
def znu{α:Type}(d0:α)(e:α->T zn)(d:List α)(f:Int):(zn×Int)->T ((zn×Int)⊕(zn))
 | (c,a) =>
  .ite (decide (a<f))
   (oI a d <|
    T.bind (e (nth d a d0)) λb =>
    oK ([32]:zn) b <|
    oK c (cat ([32]:zn) b) <|
    .ret (.inl ((cat c (cat ([32]:zn) b)),(q9 (a+(1:Int))))))
   (.ret (.inr c))
theorem yR(a b:zn):(cat a b).length=a.length+b.length:=List.length_append
theorem zaK{α:Type}(d0:α)(K:Nat)(e:α->T zn)(l:List α)(c:zn)(he:∀ x∈l,(e x).wp λr=>r.length<=K)(B:c.length+l.length*(K+1)<=1000000000000000)(hn:l.length<=1000000000) :
  (T.bind (T.loop (znu d0 e l (l.length:Int)) (c,(0:Int))) λa=>oK a ([10]:zn) (.ret (cat a ([10]:zn)))).wp λr=>r.length<=c.length+l.length*(K+1)+1:=by
 refine xc (xp (P:=λz=>z.length<=c.length+l.length*(K+1)) ?_ λz hz=>wJ (by show z.length+1<=_; omega) (zd (by rw[yR]; show z.length+1<=_; omega)))
 refine vY (σ:=zn×Int) (λz=>∃ k:Nat,z.2=(k:Int)/\k<=l.length/\z.1.length<=c.length+k*(K+1)) (λz=>((l.length:Int)-z.2).toNat) ⟨0,rfl,Y _,by show c.length<=_; omega⟩ ?_
 rintro⟨s,_⟩ ⟨k,rfl,hk,hs⟩
 unfold znu
 refine ze (λV => ?_) λV=>zd ?_
 ·have V:=uC V
  have hw:q9 ((k:Int)+1)=k+1:=qs (Z) (Z)
  have h1:(k+1)*(K+1)=k*(K+1)+(K+1):=Nat.succ_mul ..
  have X:(k+1)*(K+1)<=l.length*(K+1):=Nat.mul_le_mul_right _ (Z)
  have hs:s.length<=c.length+k*(K+1):=hs
  refine qo ⟨Z,V⟩ (xc (xp (he _ (xj (Z) V)) λb J=>wJ (by show 1+b.length<=_; omega) (wJ (by rw[yR]; show s.length+(1+b.length)<=_; omega) (zd ?_))))
  rw[hw]
  exact⟨⟨k+1,rfl,Z,by show(cat s (cat [32] b)).length<=_; rw[yR,yR]; show s.length+(1+b.length)<=_; omega⟩,by simp only; omega⟩
 ·have V:=ga V
  have e:k=l.length:=Z
  subst e
  exact hs
instance (a:Bool):Sp (cP a) True (λr=>r.length<=1):=⟨λ_=>by unfold cP; exact ze (λ_=>zd (zH _)) λ_=>zd (zH _)⟩
instance (a:Int):Sp (mC a) (-1<=a/\a<1000000000000000000) (λr=>r.length<=18):=⟨λh=>by
 unfold mC
 exact ze (λ_=>zd (by show 1<=18; decide)) λe=>za ⟨by have:=ga e; omega,h.2⟩ λb J=>zd J.1⟩
instance (p:wq):Sp (mD p) (Pn p) (λr=>r.length<=68051):=⟨λh=>by
 have X:rl p.2.2.1<=1700:=h.2
 unfold mD
 exact ze (λ_=>zd (by show 1<=68051; decide)) λ_=>ze (λ_=>za ⟨h.1,Z⟩ λb J=>wJ (by show b.length+1<=_; omega) (zd (by rw[yR]; show b.length+1<=_; omega))) λ_=>za ⟨h.1,Z⟩ λb J=>zd (by show b.length<=_; omega)⟩
instance (l:List Bool) (c:zn):Sp (iM c l λa=>cP a) (l.length<=1000000000/\c.length<=10) (λr=>r.length<=c.length+l.length*2+1):=⟨λh =>
 zaK (zb .bool) 1 _ l c (λ_ _=>Sp.sp trivial) (Z) h.1⟩
instance (l:List Int) (c:zn):Sp (Z1 c l λa=>mC a) ((l.length<=1000000000/\ou l)/\c.length<=10) (λr=>r.length<=c.length+l.length*19+1):=⟨λh =>
 zaK (zb (.int .i64)) 18 _ l c (λx U=>Sp.sp (h.1.2 x U)) (Z) h.1.1⟩
instance (l:List Lf.Rat) (c:zn):Sp (nn c l λa=>gJ a) (rs l/\c.length<=10) (λr=>r.length<=c.length+l.length*68051+1):=⟨λh =>
 zaK (zb zm) 68050 _ l c (λx U=>vE (s:=inferInstance) ⟨(h.1.2 x U).1,by have:=(h.1.2 x U).2; omega⟩ λr hr=>by have:=(h.1.2 x U).2; omega) (by have:=h.1.1; omega) h.1.1⟩
instance (l:List wq) (c:zn):Sp (iN c l λa=>mD a) (Ps l/\c.length<=10) (λr=>r.length<=c.length+l.length*68052+1):=⟨λh =>
 zaK (zb b8) 68051 _ l c (λx U=>Sp.sp (h.1.2 x U)) (by have:=h.1.1; omega) h.1.1⟩
instance (d:wo):Sp (cr d) (Dw d) (λr=>r.length<=68052*(d.1.length+d.2.2.1.length+d.2.2.2.2.1.length)+19*(d.2.1.length+d.2.2.2.1.length+d.2.2.2.2.2.1.length)+100):=⟨λ⟨h1,X,h3,h4,h5,h6,h7⟩=>by
 have k1:=h1.1
 have k3:=h3.1
 have k5:=h5.1
 unfold cr
 refine za ⟨h1,qh⟩ λa ha=>za ⟨X,qh⟩ λb J=>wJ ?_ (za ⟨h3,qh⟩ λc hc=>wJ ?_ (za ⟨⟨h4,h7⟩,qh⟩ λe he=>wJ ?_ (za ⟨h5,qh⟩ λg hg=>wJ ?_ (za ⟨h6,qh⟩ λk hk=>wJ ?_ (wJ ?_ (zd ?_))))))
 all_goals
  simp only[yR,List.length_cons,List.length_nil]at *
  omega⟩
theorem Dx.len{f:Form}{d:wo}(h:Dx f d):68052*(d.1.length+d.2.2.1.length+d.2.2.2.2.1.length)+19*(d.2.1.length+d.2.2.2.1.length+d.2.2.2.2.2.1.length)+100<=1000000000:=by
 obtain⟨-,hV,f1,f2,l1,l2,l3,l4,l5,l6⟩:=h
 have n1:=hV.1.1.1
 have n2:=hV.1.2.1.1
 omega
open T PL
theorem Ko{a b:zn}:xx a b=decide (a=b):=by unfold xx; rw[Bool.eq_iff_iff]; simp
def isD(b:UInt8):Bool:=decide (48<=b.toNat/\b.toNat<=57)
def iG(s:zn):Bool:=s.all isD
theorem OA{b:UInt8}:isD b=true↔48<=b.toNat/\b.toNat<=57:=by unfold isD; simp
theorem Fq(s t:zn):iG (s++t)=(iG s&&iG t):=by unfold iG; rw[List.all_append]
theorem Wr(b:UInt8)(t:zn):iG (b::t)=(isD b&&iG t):=rfl
theorem zd2{s:zn}(h:iG s=true):dgV s<10 ^ s.length:=by
 have key:∀ (s:zn) (n k:Nat),iG s=true->n<10 ^ k->s.foldl (λn b=>n*10+(b.toNat-48)) n<10 ^ (k+s.length):=by
  intro s
  induction s with
  | nil=>simp
  | cons b s ih =>
   intro n k V hn
   simp only[iG,List.all_cons,Bool.and_eq_true]at V
   have J:=OA.1 V.1
   have:=ih (n*10+(b.toNat-48)) (k+1) V.2 (by rw[Nat.pow_succ]; omega)
   rw[List.foldl_cons,List.length_cons]
   rwa [show k+(s.length+1)=k+1+s.length by omega]
 have:=key s 0 0 h (qw)
 simpa[dgV]using this
theorem G0(f:Nat->Bool):∀ (n k i:Nat),i<n->Vc .bool (nC .bool n) (SX (e:=.bool) f n k) i=f (k+i)
 | 0,_,_,h=>Z
 | n+1,k,0,_=>by
  rfl
 | n+1,k,i+1,h=>by
  show Vc .bool (nC .bool n) (SX (e:=.bool) f n (k+1)) i=_
  rw[G0 f n (k+1) i (Z)]
  grind
abbrev ep:zn:=[48,49,50,51,52,53,54,55,56,57]
theorem z7r:∀ c:Fin 256,ep.contains (UInt8.ofNat c.val)=decide (48<=c.val/\c.val<=57):=by decide +kernel
theorem LZ{s:zn}{k:Nat}(h:k<s.length):vx s (k:Int)=((s[k]).toNat:Int):=by
 unfold vx; simp[h]
theorem M8(b:UInt8)(s:zn):iv 1 (((b::s).length:Nat):Int) (b::s)=s:=by unfold iv; simp
theorem T8(s:zn)(b:UInt8):iv 0 ((s.length:Nat):Int) (s++[b])=s:=by unfold iv; simp
theorem Ux(b:UInt8):(vk (mm ep) (b.toNat:Int)).run=some (isD b):=by
 have J:b.toNat<256:=b.toNat_lt
 unfold vk
 rw[xg ⟨Z,Z⟩,xy]
 unfold mm
 rw[Int.toNat_natCast,G0 _ 256 0 _ J,Nat.zero_add]
 exact congrArg some (z7r ⟨b.toNat,J⟩)
theorem Bv(s:zn)(hs:s.length<=1000000000):∃ r,(jH s (mm ep)).run=some r/\iG r=iG s/\(iG r=true->r=[])/\r.length<=s.length:=by
 have:=T.cS (r:=uH (mm ep)) (λt:zn=>iG t=iG s/\t.length<=s.length) (λt=>t.length) (λr:zn=>iG r=iG s/\(iG r=true->r=[])/\r.length<=s.length) (λt ht => ?_) (s:=s) ⟨rfl,zH _⟩
 ·obtain⟨r,h1,X⟩:=this
  have h1:(jQ (mm ep) s).run=some r:=h1
  unfold jH
  rw[zt h1]
  exact⟨r,rfl,X⟩
 ·rcases List.eq_nil_or_concat t with rfl | ⟨l,b,rfl⟩
  ·right
   refine⟨[],?_,ht.1,λ_=>rfl,qw⟩
   rfl
  ·rw[List.concat_eq_append]at ht ⊢
   have B:(l++[b]).length=l.length+1:=qw
   have e1:q9 (((l++[b]).length:Int)-1)=(l.length:Int):=by rw[B,qs (Z) (Z)]; omega
   have e2:vx (l++[b]) (l.length:Int)=(b.toNat:Int):=by rw[LZ (qw)]; simp
   unfold uH
   rw[vK (decide_eq_true (qw)),e1,vP _ (Z) (wa),e2,zt (Ux b)]
   cases J:isD b with
   | false =>
    right
    refine⟨_,by rfl,ht.1,λh => ?_,ht.2⟩
    rw[Fq,Wr,J]at h; simp at h
   | true =>
    left
    refine⟨l,by rw[ji (by rfl),W6 _ (Z) (Z) (wa),xy,T8],⟨?_,Z⟩,Z⟩
    rw[<- ht.1,Fq,Wr,J]; simp[iG]
theorem En(s:zn)(hs:s.length<=1000000000):∃ r,(jU s (mm ep)).run=some r/\iG r=iG s/\(iG r=true->r=[]):=by
 have:=T.cS (r:=j3 (mm ep)) (λt:zn=>iG t=iG s) (λt=>t.length) (λr:zn=>iG r=iG s/\(iG r=true->r=[])) (λt ht => ?_) (s:=s) rfl
 ·obtain⟨r,h1,X⟩:=this
  have h1:(kE (mm ep) s).run=some r:=h1
  unfold jU
  rw[zt h1]
  exact⟨r,rfl,X⟩
 ·cases t with
  | nil =>
   right
   refine⟨[],?_,ht,λ_=>rfl⟩
   rfl
  | cons b l =>
   have e2:vx (b::l) 0=(b.toNat:Int):=rfl
   unfold j3
   rw[vK (decide_eq_true (qw)),vP _ (Z) (qw),e2,zt (Ux b)]
   cases J:isD b with
   | false =>
    right
    refine⟨_,by rfl,ht,λh => ?_⟩
    rw[Wr,J]at h; simp at h
   | true =>
    left
    refine⟨l,by rw[ji (by rfl),W6 _ (Z) (wa) (Z),xy,M8],?_,qw⟩
    rw[<- ht,Wr,J]; rfl
theorem D0:∀ (j:Nat) b,ep[j]? = some b->b.toNat<128:=by
 intro j b h
 have:b∈ep:=zQ h
 simp at this
 rcases this with rfl | rfl | rfl | rfl | rfl | rfl | rfl | rfl | rfl | rfl<;>decide
theorem Yd(s:zn)(hs:s.length<=1000000000)(hn:s≠[]):∃ r,(cH s ep).run=some r/\xx r []=iG s:=by
 obtain⟨r1,a1,a2,a3,a4⟩:=Bv s hs
 obtain⟨r,b1,b2,b3⟩:=En r1 (Z)
 refine⟨r,?_,?_⟩
 ·have hm:(strings_makeASCIISet ep).run=some (mm ep,true):=by
   unfold strings_makeASCIISet
   rw[xg ⟨qh,D0⟩,xy]
  have e1:xx s []=false:=by rw[Ko]; simpa using hn
  unfold cH
  rw[ji (by rw[e1]; rfl),xg (λh=>wa),ji (by rfl),zt hm,Js,zt a1,zt b1,xy]
 ·rw[Ko]
  rw[a2]at b2
  cases h:iG s with
  | true=>grind
  | false =>
   rw[h]at b2
   refine decide_eq_false λz => ?_
   subst z; cases b2
instance (b:Bool):Sp (uA b) True (λr=>r.elim (λ_=>b=true) λ_=>b=false):=⟨λ_=>by unfold uA; exact ze (λe=>zd (by simpa using e)) λe=>zd (by simpa using e)⟩
instance (a:zn):Sp (nh a) (a.length<=1000000000) (λr=>r.elim (λn=>0<=n/\n<1000000000000000000) λ_=>True):=⟨λh=>by
 unfold nh
 refine xc (xp (P:=λz:Unit⊕Unit=>z.elim (λ_=>a≠[]/\a.length<=18/\iG a=true) λ_=>True) (ze (λe=>ze (λe2 => ?_) λ_=>za trivial λz hz => ?_) λ_=>za trivial λz hz => ?_) λz hz => ?_)
 ·have e1:a≠[]:=by rw[Ko]at e; simpa using e
  obtain⟨r,h1,X⟩:=Yd a h e1
  refine xc (gI h1 (za trivial λz hz => ?_))
  rcases z with z | z
  ·have e2:=uC e2
   exact zd ⟨e1,Z,X.symm.trans hz⟩
  ·exact zd trivial
 ·rcases z with z | z
  ·cases hz
  ·exact zd trivial
 ·rcases z with z | z
  ·cases hz
  ·exact zd trivial
 ·rcases z with z | z
  ·obtain⟨h1,X,h3⟩:=hz
   have h4:=zd2 h3
   have h5:10 ^ a.length<=10 ^ 18:=Nat.pow_le_pow_right (qh) X
   unfold strconv_Atoi
   refine xc (zi ⟨⟨h1,X⟩,λb J=>OA.1 (List.all_eq_true.1 h3 b J)⟩ (zd (za trivial λz hz => ?_)))
   rcases z with z | z
   ·exact zd ⟨by show(0:Int)<=(dgV a:Nat); omega,by show((dgV a:Nat):Int)<_; omega⟩
   ·exact zd trivial
  ·exact zd trivial⟩
open T PL
def zbg{α:Type}(k:Nat)(e:zn->T (α⊕Unit))(d:List zn)(f:Int):(Int×List α)->T ((Int×List α)⊕(List α⊕(Unit×List α)))
 | (b,a) =>
  .ite (decide (b<f))
   (oI b d <|
    T.bind (e (nth d b (zb .str))) <|
     zL (λc =>
      oA a k <|
      oM (a.length+(1:Nat)) (a++([c]:List α)).length <|
      .ret (.inl ((q9 (b+(1:Int))),(a++([c]:List α)))))
     (λe =>
      W a <|
      .ret (.inr (.inr (e,a)))))
   (oC a <|
    W a <|
    .ret (.inr (.inl a)))
theorem Og{α:Type}(k:Nat)(hk:k<=64)(e:zn->T (α⊕Unit))(l:List zn)(P:α->Prop)(he:∀ s∈l,(e s).wp λr=>r.elim P λ_=>True)(hn:l.length<=1000000000) :
  (oZ (T.bind (T.loop (zbg k e l (l.length:Int)) ((0:Int),([]:List α))) (zL (λa=>oC a (W a (.ret (.inl a)))) λz=>.ret (.inr z.1))):T (List α⊕Unit)).wp λr=>r.elim (λa=>a.length<=1000000000/\∀ x∈a,P x) λ_=>True:=by
 refine zi ⟨rfl,rfl,rfl⟩ (zi rfl (xc (xp (P:=λz:List α⊕(Unit×List α)=>z.elim (λa=>a.length<=1000000000/\∀ x∈a,P x) λ_=>True) ?_ λz hz => ?_)))
 ·refine vY (σ:=Int×List α) (λz=>0<=z.1/\z.1<=l.length/\(z.2.length:Int)=z.1/\∀ x∈z.2,P x) (λz=>((l.length:Int)-z.1).toNat) ⟨zJ _,by show(0:Int)<=_; omega,rfl,nofun⟩ ?_
  rintro⟨i,a⟩ ⟨i0,i1,ha,hp⟩
  dsimp only at i0 i1 ha hp
  unfold zbg
  refine ze (λV => ?_) λV=>zc (z8 (zd ⟨Z,hp⟩))
  have V:=uC V
  have hw:q9 (i+1)=i+1:=qs (Z) (Z)
  refine qo ⟨i0,V⟩ (xc (xp (he _ (xj i0 V)) λz hz => ?_))
  rcases z with c | c
  ·have hm:(a.length+1)*k<=(a.length+1)*64:=Nat.mul_le_mul_left _ hk
   refine vS (Z) (uz (Kb _ _).symm (zd ?_))
   rw[hw]
   exact⟨⟨by show 0<=i+1; omega,by show i+1<=_; omega,by show((a++[c]).length:Int)=i+1; rw[Kb]; omega,jl hp hz⟩,by simp only; omega⟩
  ·exact z8 (zd trivial)
 ·rcases z with z | z
  ·exact zc (z8 (zd hz))
  ·exact zd trivial
def bL(l:List zn):Prop:=l.length<=1000000000/\∀ s∈l,s.length<=1000000000
instance (s:zn):Sp (dI s) True (λr=>r.elim (λa=>rg a/\rl a<=1700) λ_=>True):=⟨λ_=>by
 unfold dI
 refine za trivial λa ha=>za trivial λz _ => ?_
 rcases z with z | z
 ·exact zd ha
 ·exact zd trivial⟩
instance (s:zn):Sp (ni s) True (λr=>r.elim (λ_=>True) λ_=>True):=⟨λ_=>by
 unfold ni
 refine ze (λ_=>za trivial λz _ => ?_) λ_=>za trivial λz _ => ?_
 ·rcases z with z | z<;>exact zd trivial
 ·rcases z with z | z<;>exact zd trivial⟩
instance (s:zn):Sp (nj s) (s.length<=1000000000) (λr=>r.elim (λn => -1<=n/\n<1000000000000000000) λ_=>True):=⟨λh=>by
 unfold nj
 refine ze (λ_=>zd (by show(-1:Int) <= -1/\(-1:Int)<1000000000000000000; decide)) λ_=>za h λz hz => ?_
 rcases z with z | z
 ·exact zd ⟨by have:0<=z:=hz.1; show -1<=z; omega,hz.2⟩
 ·exact zd trivial⟩
instance (a b:zn):Sp (strings_CutSuffix a b) (a.length<=1000000000/\b.length<=1000000000) (λ_=>True):=⟨λ⟨h,k⟩=>by
 have hw:q9 ((a.length:Int)-b.length)=a.length-b.length:=qs (Z) (Z)
 unfold strings_CutSuffix ke kg
 rw[hw]
 refine xc (xc (zi (λe => ?_) (zd (ze (λ_=>zd (zd trivial)) λe=>zi ?_ (zd (zd trivial))))))
 ·have:=uC e
  exact⟨Z,Z,Z⟩
 ·have:(b.length:Int)<=a.length:=by
   by_cases q:(b.length:Int)<=a.length
   ·exact q
   ·rw[decide_eq_false q]at e; cases e
  exact⟨Z,Z,Z⟩⟩
instance (s:zn):Sp (nk s) (s.length<=1000000000) (λr=>r.elim Pn λ_=>True):=⟨λh=>by
 unfold nk
 refine ze (λ_=>za ⟨qh,qh⟩ λa ha=>zd ⟨ha.1,?_⟩) λ_=>za ⟨h,qh⟩ λx _=>za trivial λz hz => ?_
 ·have X:rl a<=2:=ha.2
  exact zA X (qh)
 ·rcases z with z | z
  ·exact zd hz
  ·exact zd trivial⟩
instance (b:List zn) (u:Unit):Sp (uQ b u) (bL b) (λr=>r.elim rs λ_=>True):=⟨λh=>Og 56 (qh) _ b _ (λ_ _=>Sp.sp trivial) h.1⟩
instance (b:List zn) (u:Unit):Sp (uR b u) (bL b) (λr=>r.elim (λa=>a.length<=1000000000/\∀ x∈a,True) λ_=>True):=⟨λh=>Og 1 (qh) _ b (λ_=>True) (λ_ _=>Sp.sp trivial) h.1⟩
instance (b:List zn) (u:Unit):Sp (y9 b u) (bL b) (λr=>r.elim (λa=>a.length<=1000000000/\ou a) λ_=>True):=⟨λh=>Og 8 (qh) _ b _ (λs hs=>Sp.sp (h.2 s hs)) h.1⟩
instance (b:List zn) (u:Unit):Sp (jy b u) (bL b) (λr=>r.elim Ps λ_=>True):=⟨λh=>Og 64 (qh) _ b _ (λs hs=>Sp.sp (h.2 s hs)) h.1⟩
instance (a:gS):Sp (bE a) (a.1.length<=1000000000) (λr=>r.elim (λz=>z.1.length<=1000000000/\z.2.1.length<=1000000000/\z.1.length<1000000000+1) λ_=>True):=⟨λh=>by
 unfold bE
 refine za h λ⟨b,c,d⟩ hz=>za trivial λz _ => ?_
 have hz:b.length+c.length<=a.1.length:=hz
 rcases z with z | z
 ·exact zd ⟨by show b.length<=_; omega,by show c.length<=_; omega,by show b.length<_; omega⟩
 ·exact zd trivial⟩
instance (w:zn) (a:gS):Sp (wQ w a) (a.1.length<=1000000000) (λr=>r.elim (λz=>bL z.1/\z.2.1.length<=1000000000) λ_=>True):=⟨λh=>by
 unfold wQ
 refine za h λz hz => ?_
 rcases z with⟨c,b⟩ | z
 ·obtain⟨h1,X,-⟩:=hz
  have h1:c.length<=1000000000:=h1
  have X:b.1.length<=1000000000:=X
  have h3:=z4Z 32 c
  have h4:(eT 32 c).length<=sX (eT 32 c)/\(eT 32 c=[]->sX (eT 32 c)=0):=by
   generalize eT 32 c=l
   refine⟨?_,λe=>by rw[e]; rfl⟩
   induction l with
   | nil=>exact Y _
   | cons a l ih=>unfold sX at *; simp; omega
  have h5:1<=(eT 32 c).length:=by
   rcases Nat.eq_zero_or_pos (eT 32 c).length with e | e
   ·have:=h4.2 (List.eq_nil_of_length_eq_zero e); omega
   ·exact e
  unfold strings_Split
  refine xc (zi ⟨Z,rfl⟩ (zd (qo ⟨qh,by show(0:Int)<(eT 32 c).length; omega⟩ (za trivial λz _ => ?_))))
  rcases z with z | z
  ·refine zi ⟨qh,by show(1:Int)<=(eT 32 c).length; omega,zJ _⟩ (zd ⟨⟨?_,λs hs => ?_⟩,X⟩)
   ·show(zI _ (R _ (eT 32 c))).length<=_
    rw[zO,zF]
    show min _ _-1<=_
    omega
   ·exact zA (h3.2 s (zK (zR hs))) h1
  ·exact zd trivial
 ·exact zd trivial⟩
theorem cu0:zu 0 0 0 0:=⟨rfl,rfl,rfl⟩
instance (a:Int):Sp (iJ a) True (λr=>r=a):=⟨λ_=>by unfold iJ; exact vD rfl (zd rfl)⟩
instance (u:Unit) (a:Int):Sp (wD u a) True (λr=>r=2):=⟨λ_=>by unfold wD; exact wz rfl (vD rfl (zd rfl))⟩
theorem JY{p:Prop} (h:p:=by
 refine za trivial λ_ e => ?_
 subst e
 repeat' (with_reducible first | refine z8 ?_ | refine zc ?_ | refine zi cu0 ?_ | refine zi (Eq.refl 0) ?_)
 exact zd (nz (a:=2) (qh))):p:=h
abbrev R8d(r:Unit×Int×List Lf.Rat×List Bool×List Lf.Rat×List Int×List wq×List Bool):wo:=(r.2.2.1,r.2.2.2.1,r.2.2.2.2.1,r.2.2.2.2.2.1,r.2.2.2.2.2.2.1,r.2.2.2.2.2.2.2,())
instance (s:zn):Sp (pE s) (s.length<=1000000000) (λr=>r.2.1=0->Dw (R8d r)):=⟨λhs=>by
 unfold pE
 refine za hs λz hz => ?_
 rcases z with⟨k,l⟩ | ⟨y,l⟩
 rotate_left
 ·exact JY
 refine za hz.1 λz h1 => ?_
 rcases z with a | z
 rotate_left
 ·exact JY
 have B:l.1.length<=1000000000:=hz.2
 clear hz
 refine za B λz hz => ?_
 rcases z with⟨k,l⟩ | ⟨y,l⟩
 rotate_left
 ·exact JY
 refine za hz.1 λz X => ?_
 rcases z with b | z
 rotate_left
 ·exact JY
 have B:l.1.length<=1000000000:=hz.2
 clear hz
 refine za B λz hz => ?_
 rcases z with⟨k,l⟩ | ⟨y,l⟩
 rotate_left
 ·exact JY
 refine za hz.1 λz h3 => ?_
 rcases z with c | z
 rotate_left
 ·exact JY
 have B:l.1.length<=1000000000:=hz.2
 clear hz
 refine za B λz hz => ?_
 rcases z with⟨k,l⟩ | ⟨y,l⟩
 rotate_left
 ·exact JY
 refine za hz.1 λz h4 => ?_
 rcases z with d | z
 rotate_left
 ·exact JY
 have B:l.1.length<=1000000000:=hz.2
 clear hz
 refine za B λz hz => ?_
 rcases z with⟨k,l⟩ | ⟨y,l⟩
 rotate_left
 ·exact JY
 refine za hz.1 λz h5 => ?_
 rcases z with e | z
 rotate_left
 ·exact JY
 have B:l.1.length<=1000000000:=hz.2
 clear hz
 refine za B λz hz => ?_
 rcases z with⟨k,l⟩ | ⟨y,l⟩
 rotate_left
 ·exact JY
 refine za hz.1 λz h6 => ?_
 rcases z with f | z
 rotate_left
 ·exact JY
 dsimp only[Sum.elim_inl]
 rw[dh,dh,dh,dh,dh,dh]
 have hD:Dw (a,b,c,d,e,f,()):=⟨h1,X.1,h3,h4.1,h5,h6.1,h4.2⟩
 refine zb0 (za hD λv _=>za trivial λz _ => ?_)
 rcases z with z | z
 rotate_left
 ·exact JY
 refine za trivial λw _ => ?_
 repeat' (with_reducible first | refine z8 ?_ | refine zc ?_)
 exact zd λ_=>hD⟩
instance (f:Form) (s:zn):Sp (tw f s) (FW 8200 f/\s.length<=1000000000) (λr=>r.2=0->Dx f r.1):=⟨λ⟨hF,hs⟩=>by
 unfold tw
 refine za hs λ⟨l,g,a,b,c,d,e,h⟩ hz => ?_
 dsimp only
 rw[dh,dh,dh,dh,dh,dh]
 refine ze (λq=>zd (nz (by simpa using q))) λq=>zb0 (za ⟨hF,hz (by simpa using q)⟩ λi hi=>ze (λ_=>zd (nz (a:=1) (qh))) λq2=>zb0 (zd λ_=>(hi (by simpa using q2)).1))⟩
open T PL
def vh(v:wj):Prop:=v.1.length<=20000/\v.2.1.length<=20000/\rs v.2.2.1
instance (f:Form) (l:List Lf.Rat):Sp (s7 f l) (FV f/\rs l) (λr=>vh r):=⟨λh=>by
 obtain⟨h1,_⟩:=FV.fe h.1
 have X:l.length<=1000000000:=h.2.1
 unfold s7 vh
 exact goe⟩
instance (d:zn) (a:wj) (g:List Lf.Rat):Sp (Ur d a g) (vh a/\rs g) (λr=>rg r.1/\rl r.1<=1700):=⟨λ⟨⟨h1,X,h3⟩,hg⟩=>by
 unfold Ur
 exact za (Z) λb J=>ze (λ_=>za hg λe he=>zd ⟨he.1,he.2.1⟩) λ_=>za (Z) λc hc=>ze (λ_=>zd ⟨W7.1,zA (zT W7.2) (qh)⟩) λ_=>za h3 λf hf=>zd ⟨hf.1,hf.2.1⟩⟩
instance (e:Expr) (v:wj) (l:List Lf.Rat):Sp (ZQ e v l) (EK e/\vh v/\rs l) (λr=>rg r.1/\rl r.1<=440000):=⟨λh=>by
 obtain⟨⟨n,hn,he⟩,hv,B⟩:=h
 unfold ZQ
 refine xp (P:=λr=>∀ n,EO n e->rg r.1/\rl r.1<=1710*n) ?_ λr hr=>by have:=hr n he; exact⟨this.1,Z⟩
 refine sZ (x:=(e,v,l)) (λ(e,v,l)=>(∃ n,n<=256/\EO n e)/\vh v/\rs l) (λ(e,_)=>zS e) (λ(e,_) (r:Lf.Rat×Int)=>∀ n,EO n e->rg r.1/\rl r.1<=1710*n) ?_ ?_ ⟨⟨n,hn,he⟩,hv,B⟩
 ·intro g g' hg x
  unfold yl
  exact mono
 ·intro⟨e,v,l⟩ ⟨⟨n,hn,he⟩,hv,B⟩ g hg
  have z:rg (false,[],[],())/\rl (false,[],[],())<=0:=⟨W7.1,zT W7.2⟩
  have hq:∀ {n'},EO n' e->n'=n:=λh=>h.uniq he
  suffices (yl (λy0 y1 y2=>g (y0,y1,y2)) e v l).wp λr=>rg r.1/\rl r.1<=1710*n from xp this λr hr n' h=>by rw[hq h]; exact hr
  clear hq
  cases he with
  | num h1 X =>
   unfold yl
   simp only[Expr.kids,Expr.kind,Expr.num,Expr.name]
   exact vD rfl FE
  | nam h1 =>
   unfold yl
   simp only[Expr.kids,Expr.kind,Expr.num,Expr.name]
   exact wz rfl (vD rfl FE)
  | @neg m s i a h1 =>
   have ha:Sp (g (a,v,l)) True (λr=>rg r.1/\rl r.1<=1710*i):=⟨λ_=>xp (hg (a,v,l) ⟨⟨i,Z,h1⟩,hv,B⟩ (by simp<;>omega)) λr hr=>hr i h1⟩
   unfold yl
   simp only[Expr.kids,Expr.kind,Expr.num,Expr.name]
   clear hg
   refine wz rfl (wz rfl (qo ⟨Z,qw⟩ ?_))
   rw[show nth [a] 0 (zb .expr)=a from rfl]
   refine za trivial λr hr=>ze (λ_=>zd ?_) λ_=>vD rfl ?_
   ·grind
   ·exact FE
  | @bin k m s i j a b h1 X h3 h4 =>
   have ha:Sp (g (a,v,l)) True (λr=>rg r.1/\rl r.1<=1710*i):=⟨λ_=>xp (hg (a,v,l) ⟨⟨i,Z,h3⟩,hv,B⟩ (by simp<;>omega)) λr hr=>hr i h3⟩
   have J:Sp (g (b,v,l)) True (λr=>rg r.1/\rl r.1<=1710*j):=⟨λ_=>xp (hg (b,v,l) ⟨⟨j,Z,h4⟩,hv,B⟩ (by simp<;>omega)) λr hr=>hr j h4⟩
   unfold yl
   simp only[Expr.kids,Expr.kind,Expr.num,Expr.name]
   clear hg
   refine wz (wa) (wz (wa) (qo ⟨Z,by simp<;>omega⟩ ?_))
   rw[show nth [a,b] 0 (zb .expr)=a from rfl,show nth [a,b] 1 (zb .expr)=b from rfl]
   refine za trivial λr hr=>ze (λ_=>zd ?_) λ_=>wz (wa) (qo ⟨Z,qw⟩ ?_)
   ·grind
   ·exact FE⟩
instance (e:Expr) (v:wj) (l:List Lf.Rat):Sp (Zb e v l) (EW KK e/\vh v/\rs l) (λr=>rg r.1/\rl r.1<=440000):=⟨λ⟨h1,X,h3⟩=>by
 unfold Zb
 exact za h1 λb J=>ze (λ_=>zd ⟨W7.1,zA (zT W7.2) (qh)⟩) λe=>za ⟨J (by simpa using e),X,h3⟩ λz hz=>zd hz⟩
instance (c:Check) (v:wj) (l:List Lf.Rat):Sp (pQ c v l) (EW KK c.2.2.2.1/\EW KK c.2.2.2.2.1/\vh v/\rs l) (λ_=>True):=⟨λ⟨h1,X,h3⟩=>by
 unfold pQ
 refine za ⟨h1,h3⟩ λx U=>za ⟨X,h3⟩ λy hy=>ze (λ_=>zd trivial) λ_=>za ⟨U.1,hy.1,?_⟩ λb _=>ze (λ_=>zd trivial) λ_=>ze (λ_=>zd trivial) λ_=>zd trivial
 have DE:=U.2
 have hy2:=hy.2
 omega⟩
open T PL
abbrev M3:=Int×wj×List zn
theorem zjm(f:Form)(d:wo)(i:Int)(x:List Bool)(p q:Int)(g:List Field)(e:wj)(b:List zn)(hg:g.length<=64)(J:b.length<=100000000)(M:zn->Prop)(hM:∀ x∈g,M x.1)(hB:∀ s∈b,M s) :
  (lB f d i x p q g (g.length:Int) (0,e,b)).wp λr=>∃ c:List zn,r=(e,c)/\c.length<=b.length+64/\∀ s∈c,M s:=by
 unfold lB
 refine vY (λz:M3=>∃ (k:Int) (c:List zn),z=(k,e,c)/\0<=k/\k<=g.length/\(c.length:Int)<=b.length+k/\∀ s∈c,M s) (λz:M3=>((g.length:Int)-z.1).toNat) ⟨0,b,rfl,qh,Z,Z,hB⟩ ?_
 rintro _ ⟨k,c,rfl,k0,k1,hc,hC⟩
 unfold lE
 refine ze (λV => ?_) λV=>zc (z8 (zd ⟨c,rfl,Z,hC⟩))
 have V:=uC V
 have hw:q9 (k+1)=k+1:=qs (Z) (Z)
 refine qo ⟨k0,V⟩ (zi (λ_ _ h=>⟨k0,by have:=ga h; omega⟩) (ze (λ_=>vS (Z) (uz (Kb _ _).symm (zd ?_))) λ_=>zc (z8 (zd ?_))))
 ·rw[hw]
  exact⟨⟨k+1,_,rfl,Z,Z,by rw[Kb]; omega,jl hC (hM _ (xj k0 V))⟩,by simp only; omega⟩
 ·rw[hw]
  exact⟨⟨k+1,_,rfl,Z,Z,Z,hC⟩,by simp only; omega⟩
theorem zjn(f:Form)(d:wo)(i:Int)(x:List Bool)(p q:Int)(g:List Check)(e:wj)(b:List zn)(hg:g.length<=8200/\∀ x∈g,EW KK x.2.2.2.1/\EW KK x.2.2.2.2.1)(hv:vh e/\rs d.2.2.1)(J:b.length<=100000000)(M:zn->Prop)(hM:∀ x∈g,M x.1)(hB:∀ s∈b,M s) :
  (lC f d i x p q g (g.length:Int) (0,e,b)).wp λr=>∃ c:List zn,r=(e,c)/\c.length<=b.length+8200/\∀ s∈c,M s:=by
 have hg1:=hg.1
 unfold lC
 refine vY (λz:M3=>∃ (k:Int) (c:List zn),z=(k,e,c)/\0<=k/\k<=g.length/\(c.length:Int)<=b.length+k/\∀ s∈c,M s) (λz:M3=>((g.length:Int)-z.1).toNat) ⟨0,b,rfl,qh,Z,Z,hB⟩ ?_
 rintro _ ⟨k,c,rfl,k0,k1,hc,hC⟩
 unfold lF
 refine ze (λV => ?_) λV=>zc (z8 (zd ⟨c,rfl,Z,hC⟩))
 have V:=uC V
 have hw:q9 (k+1)=k+1:=qs (Z) (Z)
 have U:=hg.2 _ (xj (d:=zb xi) k0 V)
 refine qo ⟨k0,V⟩ (xc (xp (P:=λz=>∃ q:Bool,z=(q,e,c,nth g k (zb xi))) (ze (λ_=>za ⟨U.1,U.2,hv⟩ λq _=>zc (z8 (zd ⟨_,rfl⟩))) λ_=>zc (z8 (zd ⟨_,rfl⟩))) ?_))
 rintro _ ⟨q,rfl⟩
 refine ze (λ_=>vS (Z) (uz (Kb _ _).symm (zd ?_))) λ_=>zc (z8 (zd ?_))
 ·rw[hw]
  exact⟨⟨k+1,_,rfl,Z,Z,by rw[Kb]; omega,jl hC (hM _ (xj k0 V))⟩,by simp only; omega⟩
 ·rw[hw]
  exact⟨⟨k+1,_,rfl,Z,Z,Z,hC⟩,by simp only; omega⟩
instance (f:Form) (d:wo):Sp (lA f d) (Dx f d) (λr=>r.length<=70000000/\∀ s∈r,fm f s):=⟨λ⟨hD,hV,f1,_⟩=>by
 have n3:=hV.1.2.2.1.1
 have n6:=hV.1.2.2.2.2.2
 unfold lA
 refine za ⟨hV,hD.1⟩ λe he=>za hV.1 λx U=>zi cu0 (zi rfl (xc (xp (P:=λz=>z.2.length<=70000000/\∀ s∈z.2,fm f s) ?_ λz hz=>z8 (zd (by rw[dh]; exact hz)))))
 unfold tM
 refine vY (λz:M3=>∃ (k:Int) (c:List zn),z=(k,e,c)/\0<=k/\k<=x.length/\(c.length:Int)<=8264*k/\∀ s∈c,fm f s) (λz:M3=>((x.length:Int)-z.1).toNat) ⟨0,[],rfl,qh,Z,qh,nofun⟩ ?_
 rintro _ ⟨k,c,rfl,k0,k1,hc,hC⟩
 unfold lD
 refine ze (λV => ?_) λV=>zc (z8 (zd ⟨by show c.length<=_; omega,hC⟩))
 have V:=uC V
 have hw:q9 (k+1)=k+1:=qs (Z) (Z)
 refine qo ⟨k0,V⟩ (ze (λ_=>zc (z8 (zd ?_))) λ_=>zc (z8 (xc (xp (zjm f d k x _ k f.2.2.2.1 e c f1 (Z) (fm f) (λy hy=>.inr (.inl ⟨y,hy,rfl⟩)) hC) ?_))))
 ·rw[hw]
  exact⟨⟨k+1,_,rfl,Z,Z,Z,hC⟩,by simp only; omega⟩
 ·rintro _ ⟨c1,rfl,h1,hC1⟩
  refine zc (z8 (xc (xp (zjn f d k x _ k f.2.2.2.2.2.1 e c1 ⟨n6.1,λy hy=>(n6.2 y hy).2⟩ ⟨he,hD.2.2.1⟩ (Z) (fm f) (λy hy=>.inr (.inr (.inr ⟨y,hy,rfl⟩))) hC1) ?_)))
  rintro _ ⟨c2,rfl,X,hC2⟩
  refine zc (z8 (zd ?_))
  rw[hw]
  exact⟨⟨k+1,_,rfl,Z,Z,Z,hC2⟩,by simp only; omega⟩⟩
def it(l:List Param):Prop:=∀ x∈l,x.1.length<=24/\rg x.2.1/\rl x.2.1<=1700
instance (f:Form) (d:wo):Sp (WM f d) (Dx f d) (λr=>it r/\r.length<=64):=⟨λ⟨hD,hV,f1,_⟩=>by
 have hn:=λx U=>(hV.2.2.2.2.1 x U).1.1
 have n3:=hV.1.2.2.1.1
 unfold WM
 refine za hV.1 λo ho=>zi cu0 (zi rfl (xc (xp (P:=λz=>it z/\z.length<=64) ?_ λz hz=>z8 (zd (by rw[dh]; exact hz)))))
 unfold Jo
 refine vY (λz:Int×List Param=>0<=z.1/\z.1<=f.2.2.2.1.length/\(z.2.length:Int)<=z.1/\it z.2) (λz=>((f.2.2.2.1.length:Int)-z.1).toNat) ⟨zJ _,by show(0:Int)<=_; omega,zJ _,nofun⟩ ?_
 rintro⟨k,a⟩ ⟨k0,k1,ha,hi⟩
 dsimp only at k0 k1 ha hi
 unfold Qw
 refine ze (λV => ?_) λV=>zc (z8 (zd ⟨hi,Z⟩))
 have V:=uC V
 have hw:q9 (k+1)=k+1:=qs (Z) (Z)
 have U:=hn _ (xj (d:=zb qq) k0 V)
 refine qo ⟨k0,V⟩ (zi (λh1 X=>⟨Int.not_lt.1 (ga h1),Int.not_le.1 (ga X)⟩) (ze (λ_=>zc (z8 (zd ?_))) λ_=>za ⟨qh,qh⟩ λj hj=>xc (xp (P:=λz=>∃ r:Lf.Rat,z=(a,nth f.2.2.2.1 k (zb qq),r)/\rg r/\rl r<=1700) (ze (λhv => ?_) λ_=>zc (z8 (zd ⟨j,rfl,hj.1,?_⟩))) ?_)))
 ·rw[hw]
  exact⟨⟨by show 0<=k+1; omega,by show k+1<=_; omega,by show(a.length:Int)<=k+1; omega,hi⟩,by simp only; omega⟩
 ·have hv:=uC hv
  have q:=Eb hD.2.2.1 k k0 hv
  refine qo ⟨k0,hv⟩ (za ⟨q.1,zA q.2 (qh)⟩ λr hr=>zc (z8 (zd ⟨r,rfl,hr.1,?_⟩)))
  have:=hr.2.1
  have:=q.2
  omega
 ·have:=hj.2; omega
 ·rintro _ ⟨r,rfl,hr,hr2⟩
  refine vS (Z) (uz (Kb _ _).symm (zd ?_))
  rw[hw]
  exact⟨⟨by show 0<=k+1; omega,by show k+1<=_; omega,by show((a++[_]).length:Int)<=k+1; rw[Kb]; omega,jl hi ⟨U,hr,hr2⟩⟩,by simp only; omega⟩⟩
instance (l:List Param):Sp (nw l) (it l/\l.length<=64) (λ_=>True):=⟨λ⟨hi,hn⟩=>by
 unfold nw
 refine zi cu0 (zi rfl (xc (xp (P:=λz=>bt z.2/\z.2.length<=10000000) ?_ λz hz=>zc (z8 ?_))))
 ·unfold ZA
  refine vY (λz:Int×Unit×List Int=>0<=z.1/\z.1<=l.length/\bt z.2.2/\(z.2.2.length:Int)<=70000*z.1) (λz=>((l.length:Int)-z.1).toNat) ⟨zJ _,by show(0:Int)<=_; omega,(λ_ h=>nomatch h),qh⟩ ?_
  rintro⟨k,u,a⟩ ⟨k0,k1,J,ha⟩
  dsimp only at k0 k1 J ha
  unfold mR
  refine ze (λV => ?_) λV=>zc (z8 (zd ⟨J,by show a.length<=_; omega⟩))
  have V:=uC V
  have hw:q9 (k+1)=k+1:=qs (Z) (Z)
  obtain⟨x1,x2,x3⟩:=hi _ (xj (d:=zb qe) k0 V)
  refine qo ⟨k0,V⟩ (wJ (by show _+1<=_; omega) (za ⟨x2,zA x3 (qh)⟩ λs hs => ?_))
  have hs:s.length<=40*rl (nth l k (zb qe)).2.1+50:=hs.1
  have l1:(cat (nth l k (zb qe)).1 [32]).length=(nth l k (zb qe)).1.length+1:=yR _ _
  have l2:(cat (cat (nth l k (zb qe)).1 [32]) s).length=(nth l k (zb qe)).1.length+1+s.length:=by rw[yR,l1]
  have l3:(cat (cat (cat (nth l k (zb qe)).1 [32]) s) [10]).length=(nth l k (zb qe)).1.length+1+s.length+1:=by rw[yR,l2]; rfl
  refine wJ (Z) (wJ (by rw[l2]; show _+1<=_; omega) (zc (z8 (za (by rw[l3]; omega) λ⟨h,i,e⟩ he=>zc (z8 (zd ?_))))))
  have he:e=a++bytesOf _:=he
  subst he
  rw[hw]
  exact⟨⟨by show 0<=k+1; omega,by show k+1<=_; omega,Vx J _,by show((a++bytesOf _).length:Int)<=_; rw[List.length_append,eC,l3]; omega⟩,by simp only; omega⟩
 ·unfold rE z5a
  exact xc (zi ⟨hz.1,zA hz.2 (qh)⟩ (zd (zd trivial)))⟩
open T PL
def Ei(e:zk):Prop:=Dx e.1 e.2.1/\Hw e.2.2.1/\pl e.2.2.2.1
def An(e:zk)(r:Answer×zk):Prop:=Ei r.2/\r.1.2.1.length<=70000000/\r.2.1=e.1/\(r.1.1≠0->r.2=e/\r.1.2.2.1=[]/\∀ s∈r.1.2.1,fm e.1 s)
def Pu(e e':zk):Prop:=e'.2.2.1.1.length=min 32 (e.2.2.1.1.length+1)/\e'.2.2.1.2.1.length=0
def Un(e e':zk):Prop:=e'.2.2.1.1.length+1=e.2.2.1.1.length/\e'.2.2.1.2.1.length=e.2.2.1.2.1.length+1
def Re(e e':zk):Prop:=e'.2.2.1.1.length=e.2.2.1.1.length+1/\e'.2.2.1.2.1.length+1=e.2.2.1.2.1.length
theorem An.er{e:zk}(h:Ei e)(n:Int)(l:List zn)(B:l.length<=70000000)(hm:∀ s∈l,fm e.1 s):An e ((n,l,[],()),e):=⟨h,B,rfl,λ_=>⟨rfl,rfl,hm⟩⟩
instance (d:wo) (l:List zn) (n:Int) (e:zk):Sp (vy d l n e) (Ei e/\(n=0->Dx e.1 d)/\l.length<=1/\∀ s∈l,fm e.1 s) (λr=>An e r/\(r.1.1=0->Pu e r.2)/\(r.1.1≠0->r.2.2.2.1=e.2.2.1)):=⟨λ⟨he,V,B⟩=>by
 have hF:FW 8200 e.1:=he.1.2.1.1
 unfold vy
 refine ze (λh=>zd ⟨An.er he n l (Z) B.2,nz (by simpa using h),λ_=>rfl⟩) λh => ?_
 have V:=V (by simpa using h)
 refine za he.1.1 λs hs=>za ⟨he.2.1,zA hs he.1.len⟩ λc hc=>za ⟨hF,he.2.2⟩ λg hg=>zd ⟨⟨⟨V,hc.1,hg⟩,Y _,rfl,nofun⟩,λ_=>hc.2,nofun⟩⟩
instance (i n:Int) (e:zk):Sp (jS i n e) (Ei e/\(n=0->pl i)) (λr=>An e r/\r.2.2.2.1=e.2.2.1/\r.2.2.1=e.2.1):=⟨λ⟨he,hi⟩=>by
 unfold jS
 exact ze (λh=>zd ⟨An.er he n [] (Y _) nofun,rfl,rfl⟩) λh=>zd ⟨⟨⟨he.1,he.2.1,hi (by simpa using h)⟩,Y _,rfl,nofun⟩,rfl,rfl⟩⟩
theorem Rz(f:Form->List Bool->Int->T (Int×Bool))(hf:∀ x l a,FW 8200 x/\pl a->(f x l a).wp λr=>pl r.1)(e:zk)(he:Ei e):(jg f e).wp λr=>An e r/\r.2.2.2.1=e.2.2.1/\r.2.2.1=e.2.1:=by
 have hF:FW 8200 e.1:=he.1.2.1.1
 unfold jg
 exact xc (xp (hf _ _ _ ⟨hF,he.2.2⟩) λ⟨b,c⟩ J=>ze (λ_=>zd ⟨An.er he 13 [] (Y _) nofun,rfl,rfl⟩) λ_=>za ⟨he,λ_=>J⟩ λ⟨d,e⟩ hr=>zd hr)
theorem IV(j:dW->zn->T (dW×zn×Bool))(P:dW->dW->Prop)(hj:∀ h s,Hw h/\s.length<=1000000000->(j h s).wp λr=>(Hw r.1/\r.2.1.length<=1000000000)/\(r.2.2=true->P h r.1))(e:zk)(he:Ei e):(uT j e).wp λr=>An e r/\(r.1.1=0->P e.2.2.1 r.2.2.2.1)/\(r.1.1≠0->r.2.2.2.1=e.2.2.1):=by
 have hF:FW 8200 e.1:=he.1.2.1.1
 unfold uT
 refine za he.1.1 λs hs=>xc (xp (hj _ _ ⟨he.2.1,zA hs he.1.len⟩) λ⟨d,g,h⟩ V=>ze (λ_=>zd ⟨An.er he 13 [] (Y _) nofun,nz (a:=13) (qh),λ_=>rfl⟩) λhh=>za ⟨hF,V.1.2⟩ λ⟨b,x⟩ J=>ze (λh=>zd ⟨An.er he x [] (Y _) nofun,nz (by simpa using h),λ_=>rfl⟩) λh => ?_)
 have J:Dx e.1 b:=J (by simpa using h)
 exact za ⟨hF,he.2.2⟩ λi hi=>zd ⟨⟨⟨J,V.1.1,hi⟩,Y _,rfl,nofun⟩,λ_=>V.2 (by simpa using hh),nofun⟩
instance (e:zk):Sp (kW e) (Ei e) (λr=>An e r/\r.2.2.2.1=e.2.2.1):=⟨λhe=>by
 have hD:Dx e.1 e.2.1:=he.1
 unfold kW
 exact za hD λd V=>ze (λ_=>zd ⟨An.er he 15 d V.1 V.2,rfl⟩) λ_=>za hD λl B=>za B λs _=>zd ⟨⟨he,Y _,rfl,nofun⟩,rfl⟩⟩
def Kn(k:Int)(e:zk)(r:Answer×zk):Prop :=
 (r.1.1=0->1<=k->k<=5->Pu e r.2)/\(r.1.1=0->k=9->Un e r.2)/\(r.1.1=0->k=10->Re e r.2)/\(¬ (r.1.1=0/\(1<=k/\k<=5\/k=9\/k=10))->r.2.2.2.1=e.2.2.1)/\(6<=k->k<=8->r.2.2.1=e.2.1)
def Ov(o:Op):Prop:=rg o.2.2.1/\rl o.2.2.1<=1700
theorem eqI{a b:Int}(h:(a==b)=true):a=b:=eq_of_beq h
theorem neI{a b:Int}(h:(a==b)=false):a≠b:=beq_eq_false_iff_ne.1 h
theorem k23{k:Int}(h:(bif (k==2)then(k==2)else(k==3))=true):1<=k/\k<=5:=by
 cases q:k==2 with
 | true=>have:=eqI q; omega
 | false=>rw[q]at h; have:=eqI h; omega
theorem Kn.ch{k:Int}{e:zk}{r:Answer×zk}(hk:1<=k/\k<=5)(h:An e r/\(r.1.1=0->Pu e r.2)/\(r.1.1≠0->r.2.2.2.1=e.2.2.1)):An e r/\Kn k e r :=
 ⟨h.1,λq _ _=>h.2.1 q,Z,Z,λq=>h.2.2 λz=>q ⟨z,.inl hk⟩,Z⟩
theorem Kn.tu{k:Int}{e:zk}{r:Answer×zk}(hk:6<=k/\k<=8)(h:An e r/\r.2.2.2.1=e.2.2.1/\r.2.2.1=e.2.1):An e r/\Kn k e r :=
 ⟨h.1,Z,Z,Z,λ_=>h.2.1,λ_ _=>h.2.2⟩
instance (o:Op) (e:zk):Sp (gT o e) (Ei e/\Ov o) (λr=>An e r/\Kn o.1 e r):=⟨λ⟨he,hv⟩=>by
 have hF:FW 8200 e.1:=he.1.2.1.1
 have hD:Dw e.2.1:=he.1.1
 unfold gT
 dsimp only
 refine ze (λk=>za ⟨hF,hD,hv⟩ λ⟨x,y,z⟩ hz=>za ⟨he,hz.1,hz.2⟩ λr hr=>zd (Kn.ch (by have:=eqI k; omega) hr)) λk1 => ?_
 refine ze (λk=>za ⟨hF,hD⟩ λ⟨x,y,z⟩ hz=>za ⟨he,hz.1,hz.2⟩ λr hr=>zd (Kn.ch (k23 k) hr)) λk2 => ?_
 refine ze (λk=>za ⟨hF,hD,hv⟩ λ⟨x,y,z⟩ hz=>za ⟨he,hz.1,hz.2⟩ λr hr=>zd (Kn.ch (by have:=eqI k; omega) hr)) λk4 => ?_
 refine ze (λk=>za ⟨hF,hD⟩ λ⟨x,y,z⟩ hz=>za ⟨he,hz.1,hz.2⟩ λr hr=>zd (Kn.ch (by have:=eqI k; omega) hr)) λk5 => ?_
 refine ze (λk=>xc (xp (Rz _ (λx l a h=>Sp.sp h) e he) λr hr=>zd (Kn.tu (by have:=eqI k; omega) hr))) λk6 => ?_
 refine ze (λk=>xc (xp (Rz _ (λx l a h=>Sp.sp h) e he) λr hr=>zd (Kn.tu (by have:=eqI k; omega) hr))) λk7 => ?_
 refine ze (λk=>za hF λ⟨x,y⟩ U=>za ⟨he,U⟩ λr hr=>zd (Kn.tu (by have:=eqI k; omega) hr)) λk8 => ?_
 refine ze (λk=>xc (xp (IV _ (λh h'=>h'.1.length+1=h.1.length/\h'.2.1.length=h.2.1.length+1) (λh s q=>Sp.sp q) e he) λr hr=>zd ?_)) λk9 => ?_
 ·have k:=eqI k
  exact⟨hr.1,Z,λq _=>hr.2.1 q,Z,λq=>hr.2.2 λz=>q ⟨z,.inr (.inl k)⟩,Z⟩
 refine ze (λk=>xc (xp (IV _ (λh h'=>h'.1.length=h.1.length+1/\h'.2.1.length+1=h.2.1.length) (λh s q=>Sp.sp q) e he) λr hr=>zd ?_)) λk10 => ?_
 ·have k:=eqI k
  exact⟨hr.1,Z,Z,λq _=>hr.2.1 q,λq=>hr.2.2 λz=>q ⟨z,.inr (.inr k)⟩,Z⟩
 have n1:=neI k1
 have n2:Ne (α:=Int) o.1 2:=λq=>by rw[q]at k2; cases k2
 have n3:Ne (α:=Int) o.1 3:=λq=>by rw[q]at k2; cases k2
 have n4:=neI k4
 have n5:=neI k5
 have n6:=neI k6
 have n7:=neI k7
 have n8:=neI k8
 have n9:=neI k9
 have n10:=neI k10
 have fin:∀ r:Answer×zk,An e r/\r.2.2.2.1=e.2.2.1->An e r/\Kn o.1 e r:=λr h=>⟨h.1,Z,Z,Z,λ_=>h.2,Z⟩
 exact ze (λk=>za he λr hr=>zd (fin _ hr)) λ_=>zd (fin _ ⟨An.er he 1 [] (Y _) nofun,rfl⟩)⟩
instance (o:Op) (e:zk):Sp (jb o e) (Ei e/\Ov o) (λr=>An e r/\Kn o.1 e r):=⟨λh=>by
 unfold jb cY
 refine wz rfl (ze (λ_=>zd ⟨An.er h.1 14 [] (Y _) nofun,?_⟩) λ_=>za h λ⟨b,c⟩ hr=>xc (wz rfl (zd (zd hr))))
 exact⟨nz (a:=14) (qh),nz (a:=14) (qh),nz (a:=14) (qh),λ_=>rfl,λ_ _=>rfl⟩⟩
open T PL
theorem rg_of{a:Lf.Rat}(h:wf zm a):rg a:=⟨λx U=>by have:=h.2.1 x U; exact⟨this.1,zN this.2 (qh)⟩,λx U=>by have:=h.2.2.1 x U; exact⟨this.1,zN this.2 (qh)⟩⟩
theorem znt(a:Lf.Rat):rl a<=bk zm a:=by
 have e:bk zm a=1+((Wc (λ_=>1) a.2.1+1)+((Wc (λ_=>1) a.2.2.1+1)+1)):=rfl
 rw[e,Hu,Hu]
 unfold rl
 omega
theorem IY{α:Type}(f:α->Nat){l:List α}{x:α}(h:x∈l):f x<=Wc f l:=by
 induction l with
 | nil=>cases h
 | cons a r ih =>
  show _<=f a+Wc f r
  rcases List.mem_cons.1 h with rfl | h
  ·omega
  ·have:=ih h; omega
theorem Ht{α:Type}(f:α->Nat)(hf:∀ x,1<=f x):∀ l:List α,l.length<=Wc f l
 | []=>zH _
 | a::r=>by have:=Ht f hf r; have:=hf a; show r.length+1<=f a+Wc f r; omega
theorem O4(e:Expr):1<=bkE e:=by cases e; unfold bkE; omega
theorem EN:∀ (e:Expr),wfE e->bkE e<=KK->EW KK e
 | .mk k n s l,hw,J=>by
  unfold wfE at hw
  unfold bkE at J
  rw[O5]at J
  have h1:=Ht (bk .expr) (λx=>O4 x) l
  refine .mk (rg_of ⟨trivial,hw.2.1.2.1,hw.2.1.2.2.1,trivial⟩) (by unfold rl; omega) (Z) (Z) λx U => ?_
  have X:=IY (bk .expr) U
  have h3:bk .expr x=bkE x:=rfl
  exact EN x ((Sq l).1 hw.2.2.2.1 x U) (Z)
termination_by e=>zS e
decreasing_by have:=zP U; simp; omega
theorem z19:∀ (τ:Ty) (x:den τ),1<=bk τ x
 | .int _,_=>zH _
 | .bool,_=>zH _
 | .str,_=>Nat.le_add_left ..
 | .sl _,_=>Nat.le_add_left ..
 | .nil,_=>zH _
 | .cons a b,x=>zA (z19 a x.1) (Nat.le_add_right ..)
 | .expr,x=>O4 x
theorem bl{τ:Ty}(l:List (den τ)):l.length+1<=bk (.sl τ) l:=Nat.succ_le_succ (Ht _ (z19 τ) l)
theorem bm{τ:Ty}{l:List (den τ)}{x:den τ}(h:x∈l):bk τ x+1<=bk (.sl τ) l:=Nat.succ_le_succ (IY _ h)
theorem zcy(f:Form)(hw:wf qv f)(J:bk qv f<=1048576):FW KK f:=by
 have kk:KK=2000000:=rfl
 obtain⟨w1,w2,w3,w4,w5,w6,-⟩:=hw
 have e:bk qv f=bk (.sl ql) f.1+(bk (.sl qe) f.2.1+(bk (.sl xk) f.2.2.1+(bk (.sl qq) f.2.2.2.1+(bk (.sl xl) f.2.2.2.2.1+(bk (.sl xi) f.2.2.2.2.2.1+1))))):=rfl
 have l1:=bl (τ:=ql) f.1
 have l2:=bl (τ:=qe) f.2.1
 have l3:=bl (τ:=xk) f.2.2.1
 have l4:=bl (τ:=qq) f.2.2.2.1
 have l5:=bl (τ:=xl) f.2.2.2.2.1
 have l6:=bl (τ:=xi) f.2.2.2.2.2.1
 refine⟨⟨Z,λx U => ?_⟩,⟨Z,λx U => ?_⟩,⟨Z,λx U => ?_⟩,⟨Z,λx U => ?_⟩,⟨Z,λx U => ?_⟩,Z,λx U => ?_⟩
 ·have m:=bm (τ:=ql) U
  have q:bk ql x=(x.1.length+1)+(1+1):=rfl
  omega
 ·have m:=bm (τ:=qe) U
  have q:bk qe x=(x.1.length+1)+(bk zm x.2.1+1):=rfl
  have:=znt x.2.1
  exact⟨Z,rg_of (w2 x U).2.1,Z⟩
 ·have m:=bm (τ:=xk) U
  have q:bk xk x=(x.1.length+1)+((x.2.1.length+1)+1):=rfl
  exact⟨Z,Z⟩
 ·have m:=bm (τ:=qq) U
  have q:bk qq x=(x.1.length+1)+(1+(1+(1+1))):=rfl
  omega
 ·have m:=bm (τ:=xl) U
  have q:bk xl x=(x.1.length+1)+(1+((x.2.2.1.length+1)+(bkE x.2.2.2.1+(bkE x.2.2.2.2.1+1)))):=rfl
  have w:=w5 x U
  exact⟨Z,Z,EN _ w.2.2.2.1 (Z),EN _ w.2.2.2.2.1 (Z)⟩
 ·have m:=bm (τ:=xi) U
  have q:bk xi x=(x.1.length+1)+(1+(1+(bkE x.2.2.2.1+(bkE x.2.2.2.2.1+1)))):=rfl
  have w:=w6 x U
  exact⟨Z,EN _ w.2.2.2.1 (Z),EN _ w.2.2.2.2.1 (Z)⟩
open T PL
instance (e:Expr) (n:Int):Sp (yf e n) (EW KK e /\ -1000000000<=n/\n<=1000000000) (λr=>r<=n/\min n 0-40000000<=r):=⟨λ⟨h,hn⟩=>by
 unfold yf
 refine sZ (x:=(e,n)) (σ:=Expr×Int) (λ(e,n)=>EW KK e /\ -1000000000<=n/\n<=1000000000) (λ(e,_)=>zS e) (λ(e,n) (r:Int)=>r<=n/\min n 0-40000000<=r) ?_ ?_ ⟨h,hn⟩
 ·intro g g' hg x
  unfold cI fh cW
  exact mono
 ·rintro⟨e,n⟩ ⟨he,h0,h1⟩ g hg
  cases he with
  | @mk kd q s L g1 g2 g3 g4 g5 =>
  have kk:KK=2000000:=rfl
  have r1:=(z0n (a:=q)).1
  have r2:=(z0n (a:=q)).2
  unfold cI fh
  simp only[Expr.kids,Expr.num,Expr.name]
  simp(disch:=omega) only[qs]
  refine xc (xp (vY (Q:=λr=>r<=n/\min n 0-40000000<=r) (λz:Int×Int=>0<=z.2/\z.2<=L.length/\z.1<=n/\min n 0-40000000<=z.1) (λz=>((L.length:Int)-z.2).toNat) ⟨zJ _,by show(0:Int)<=_; omega,by show n-3-_-_-_<=n; omega,by show _<=n-3-_-_-_; omega⟩ ?_) λr hr=>zd hr)
  rintro⟨b,i⟩ ⟨i0,i1,b0,b1⟩
  dsimp only at i0 i1 b0 b1
  unfold cW
  refine ze (λV => ?_) λV=>zd ⟨b0,b1⟩
  have V:=zG.1 V
  have d1:i<(L.length:Int):=uC V.1
  have d2:0<=b:=uC V.2
  have hw:q9 (i+1)=i+1:=qs (Z) (Z)
  have hm:=xj (l:=L) (d:=zb .expr) i0 d1
  refine qo ⟨i0,d1⟩ (xc (xp (hg (nth L i (zb .expr),b) ⟨g5 _ hm,Z,Z⟩ (by have:=zP hm; simp; omega)) λr hr=>zd ?_))
  have hr:r<=b/\min b 0-40000000<=r:=hr
  rw[hw]
  exact⟨⟨by show 0<=i+1; omega,by show i+1<=_; omega,by show r<=n; omega,by show _<=r; omega⟩,by simp only; omega⟩⟩
abbrev z0U:Int := -1000000000
theorem MD{α:Type}(l:List α)(d:α)(B:l.length<=KK)(c0:Int)(hc:z0U<=c0/\c0<=600){zD:Int×Int->T ((Int×Int)⊕Int)}
  (step:∀ c i:Int,0<=i->i<l.length->0<=c->c<=600->nth l i d∈l->(zD (c,i)).wp λz=>∃ c',z=.inl (c',q9 (i+1))/\c'<=c/\z0U<=c')
  (stop:∀ c i:Int,((decide (i<(l.length:Int)))&&(decide ((0:Int)<=c)))=false->(zD (c,i)).wp λz=>z=.inr c):(T.loop zD (c0,0)).wp λr=>r<=c0/\z0U<=r:=by
 have kk:KK=2000000:=rfl
 refine vY (λz:Int×Int=>0<=z.2/\z.2<=l.length/\z.1<=c0/\z0U<=z.1) (λz=>((l.length:Int)-z.2).toNat) ⟨zJ _,by show(0:Int)<=_; omega,zJ _,hc.1⟩ ?_
 rintro⟨c,i⟩ ⟨i0,i1,b0,b1⟩
 dsimp only at i0 i1 b0 b1
 cases V:(decide (i<(l.length:Int)))&&(decide ((0:Int)<=c))with
 | true =>
  have V:=zG.1 V
  have d1:i<(l.length:Int):=uC V.1
  have d2:0<=c:=uC V.2
  have hw:q9 (i+1)=i+1:=qs (Z) (Z)
  refine xp (step c i i0 d1 d2 (Z) (xj i0 d1)) ?_
  rintro _ ⟨c',rfl,q1,q2⟩
  rw[hw]
  exact⟨⟨by show 0<=i+1; omega,by show i+1<=_; omega,by show c'<=_; omega,q2⟩,by simp only; omega⟩
 | false =>
  refine xp (stop c i V) ?_
  rintro _ rfl
  exact⟨b0,b1⟩
instance (f:Form):Sp (rA f) (FW KK f) (λr=>r=false->FW 8200 f):=⟨λh=>by
 have kk:KK=2000000:=rfl
 have lo:z0U = -1000000000:=rfl
 obtain⟨⟨n1,f1⟩,⟨n2,f2⟩,⟨n3,f3⟩,⟨n4,f4⟩,⟨n5,f5⟩,n6,f6⟩:=h
 unfold rA
 simp(disch:=omega) only[qs]
 generalize hS:(f.1.length:Int)+f.2.1.length+f.2.2.1.length+f.2.2.2.1.length+f.2.2.2.2.1.length+f.2.2.2.2.2.1.length=S
 refine xc (xp (MD f.2.1 (zb qe) n2 _ ⟨Z,Z⟩ (λc i i0 i1 c0 c1 hm => ?_) λc i V => ?_) λc1 h1 => ?_)
 ·have m:=f2 _ hm
  have r1:=(z0n (a:=(nth f.2.1 i (zb qe)).2.1)).1
  have r2:=(z0n (a:=(nth f.2.1 i (zb qe)).2.1)).2
  have m1:=m.1
  have m2:=m.2.2
  unfold lP
  dsimp only
  simp(disch:=omega) only[qs]
  exact vD (by simp[i1,c0]) (qo ⟨i0,i1⟩ (qo ⟨i0,i1⟩ (qo ⟨i0,i1⟩ (zd ⟨_,rfl,Z,Z⟩))))
 ·exact wz V (zd rfl)
 refine xc (xp (MD f.1 (zb ql) n1 c1 ⟨h1.2,Z⟩ (λc i i0 i1 c0 c1 hm => ?_) λc i V => ?_) λc2 X => ?_)
 ·have m:=f1 _ hm
  unfold lQ
  dsimp only
  simp(disch:=omega) only[qs]
  exact vD (by simp[i1,c0]) (qo ⟨i0,i1⟩ (zd ⟨_,rfl,Z,Z⟩))
 ·exact wz V (zd rfl)
 refine xc (xp (MD f.2.2.1 (zb xk) n3 c2 ⟨X.2,Z⟩ (λc i i0 i1 c0 c1 hm => ?_) λc i V => ?_) λc3 h3 => ?_)
 ·have m:=f3 _ hm
  have m1:=m.1
  have m2:=m.2
  unfold lR
  dsimp only
  simp(disch:=omega) only[qs]
  exact vD (by simp[i1,c0]) (qo ⟨i0,i1⟩ (qo ⟨i0,i1⟩ (zd ⟨_,rfl,Z,Z⟩)))
 ·exact wz V (zd rfl)
 refine xc (xp (MD f.2.2.2.1 (zb qq) n4 c3 ⟨h3.2,Z⟩ (λc i i0 i1 c0 c1 hm => ?_) λc i V => ?_) λc4 h4 => ?_)
 ·have m:=f4 _ hm
  unfold lS
  dsimp only
  simp(disch:=omega) only[qs]
  exact vD (by simp[i1,c0]) (qo ⟨i0,i1⟩ (zd ⟨_,rfl,Z,Z⟩))
 ·exact wz V (zd rfl)
 refine xc (xp (MD f.2.2.2.2.1 (zb xl) n5 c4 ⟨h4.2,Z⟩ (λc i i0 i1 c0 c1 hm => ?_) λc i V => ?_) λc5 h5 => ?_)
 ·obtain⟨m1,m2,m3,m4⟩:=f5 _ hm
  unfold lT
  dsimp only
  simp(disch:=omega) only[qs]
  refine vD (by simp[i1,c0]) (qo ⟨i0,i1⟩ (qo ⟨i0,i1⟩ (qo ⟨i0,i1⟩ (qo ⟨i0,i1⟩ (za ⟨m3,Z,Z⟩ λx U=>za ⟨m4,Z,Z⟩ λy hy=>zd ⟨_,rfl,Z,Z⟩)))))
 ·exact wz V (zd rfl)
 refine xc (xp (MD f.2.2.2.2.2.1 (zb xi) n6 c5 ⟨h5.2,Z⟩ (λc i i0 i1 c0 c1 hm => ?_) λc i V => ?_) λc6 h6=>zd λe => ?_)
 ·obtain⟨m1,m3,m4⟩:=f6 _ hm
  unfold lU
  dsimp only
  simp(disch:=omega) only[qs]
  refine vD (by simp[i1,c0]) (qo ⟨i0,i1⟩ (qo ⟨i0,i1⟩ (qo ⟨i0,i1⟩ (za ⟨m3,Z,Z⟩ λx U=>za ⟨m4,Z,Z⟩ λy hy=>zd ⟨_,rfl,Z,Z⟩))))
 ·exact wz V (zd rfl)
 have e:=ga e
 exact⟨⟨Z,f1⟩,⟨Z,f2⟩,⟨Z,f3⟩,⟨Z,f4⟩,⟨Z,f5⟩,Z,f6⟩⟩
def okL(l:List Op)(n:Int):Prop:=∀ i:Int,0<=i->i<l.length->i<n->(nth l i (zb mU)).2.2.1.2.1.length<=3/\(nth l i (zb mU)).2.2.1.2.2.1.length<=3
instance (l:List Op):Sp (ZH l) (l.length<=KK) (λr=>r=false->okL l 25):=⟨λh=>by
 have kk:KK=2000000:=rfl
 unfold ZH tW
 refine xc (xp (P:=λz:Unit⊕Bool=>z.elim (λ_=>okL l 25) λb=>b=true) ?_ λz hz => ?_)
 ·refine vY (σ:=Int) (λi=>0<=i/\i<=l.length/\okL l i) (λi=>((l.length:Int)-i).toNat) ⟨Z,Z,λi _ _ _=>Z⟩ λi ⟨i0,i1,hi⟩ => ?_
  unfold o9
  dsimp only
  refine ze (λV => ?_) λV=>zd λj j0 j1 j2=>hi j j0 j1 ?_
  ·have V:=zG.1 V
   have d1:i<(l.length:Int):=uC V.1
   have hw:q9 (i+1)=i+1:=qs (Z) (Z)
   refine zi ⟨⟨i0,d1⟩,λ_=>⟨⟨i0,d1⟩,λ_=>⟨i0,d1⟩⟩⟩ (ze (λ_=>zd rfl) λe=>zd ?_)
   rw[hw]
   simp only[Bool.or_eq_false_iff]at e
   have e1:=ga e.2.1
   have e2:=ga e.2.2
   refine⟨⟨Z,Z,λj j0 j1 j2 => ?_⟩,Z⟩
   by_cases q:j=i
   ·subst q; exact⟨Z,Z⟩
   ·exact hi j j0 j1 (Z)
  ·simp only[Bool.and_eq_false_iff]at V
   rcases V with V | V
   ·have:=ga V; omega
   ·have:=ga V; omega
 ·rcases z with z | z
  ·exact zd λ_=>hz
  ·have hz:z=true:=hz
   subst hz
   exact zd nofun⟩
open T PL
instance (f:Form):Sp (cB f) (FW 8200 f) (λr=>r.elim (λz=>z.2.1=0/\Ei z.2.2/\Ow f z.2.2.1) λz=>z.2≠0):=⟨λh=>by
 unfold cB
 refine za h λ⟨s,k⟩ _=>ze (λe=>zd (by simpa using e)) λ_=>xc (xp (zno f h) λa ⟨ha,ho⟩=>za ha λ⟨l,b,i,d,c,e,g,j⟩ hr=>ze (λq => ?_) λq => ?_)
 ·have J:b.length<=1:=hr.2.1
  exact zi (Z) (zi ⟨qh,by show(0:Int)<((b.length+1:Nat):Int); omega⟩ (zi ⟨rfl,by rw[Kb]; show 0+0<_; omega⟩ (zd (by simpa using q))))
 ·obtain⟨hD,hn⟩:Dx a (d,c,l.1,e,g,j,())/\1<=a.2.2.2.1.length:=hr.1 (by simpa using q)
  have hO:Ow f a:=ho.resolve_left (by rintro rfl; exact absurd hn (qh))
  rw[dh,dh,dh,dh,dh]
  exact z8 (z8 (z8 (z8 (z8 (za ⟨ha.1,qh,qh⟩ λm hm=>zd ⟨rfl,⟨hD,⟨Y _,nofun,nofun⟩,hm⟩,hO⟩)))))⟩
instance (s:zn):Sp (dH s) (s.length<=1000000000) (λr=>r.length<=2000000000):=⟨λh=>by
 unfold dH
 refine za ⟨Z,Z⟩ λa ha=>wJ (by show a.length+1<=_; omega) (wJ (by rw[yR]; show a.length+1+s.length<=_; omega) (zd (by rw[yR,yR]; show a.length+1+s.length<=_; omega)))⟩
instance (w:zn) (l:List zn):Sp (fS w l) (w.length<=10/\l.length<=32/\sL l) (λr=>r.length<=100000000000):=⟨λ⟨h,B,hs⟩=>by
 unfold fS pD
 refine wJ (by show w.length+1<=_; omega) (za ⟨Z,Z⟩ λb J=>wJ (by rw[yR]; show w.length+1+b.length<=_; omega) (wJ (by rw[yR,yR]; show w.length+1+b.length+1<=_; omega) (xc (xp (P:=λr=>r.length<=100000000000) ?_ λr hr=>zd hr))))
 refine vY (λz:zn×Int=>0<=z.2/\z.2<=l.length/\(z.1.length:Int)<=100+2000000000*z.2) (λz=>((l.length:Int)-z.2).toNat) ⟨zJ _,by show(0:Int)<=_; omega,by show((cat (cat (cat w [32]) b) [10]).length:Int)<=100+2000000000*0; rw[yR,yR,yR]; show((w.length+1+b.length+1:Nat):Int)<=_; omega⟩ ?_
 rintro⟨s,i⟩ ⟨i0,i1,hs2⟩
 dsimp only at i0 i1 hs2
 unfold iI
 refine ze (λV => ?_) λV=>zd (by show s.length<=_; omega)
 have V:=uC V
 have hw:q9 (i+1)=i+1:=qs (Z) (Z)
 refine qo ⟨i0,V⟩ (za (hs _ (xj i0 V)) λc hc=>wJ (Z) (zd ?_))
 rw[hw]
 exact⟨⟨by show 0<=i+1; omega,by show i+1<=_; omega,by show((cat s c).length:Int)<=_; rw[yR]; show((s.length+c.length:Nat):Int)<=100+2000000000*(i+1); omega⟩,by simp only; omega⟩⟩
instance (e:zk):Sp (vN e) (Ei e) (λ_=>True):=⟨λ⟨hD,⟨h1,X,h3⟩,p0,p1⟩=>by
 unfold vN rX
 refine wz rfl (za hD.1 λb J=>xc (za (zA J hD.len) λx U=>za ⟨qh,by show e.2.2.1.1.length<=32; omega,X⟩ λc hc=>wJ (Z) (za ⟨qh,by show e.2.2.1.2.1.length<=32; omega,h3⟩ λd V => ?_)))
 dsimp only
 refine wJ (by rw[yR]; omega) (wJ (by rw[yR,yR]; show _+5<=_; omega) (za ⟨p0,zN p1 (qh)⟩ λy hy=>wJ ?_ (wJ ?_ (za trivial λz hz=>wJ ?_ (wJ ?_ (zd (zd trivial)))))))
 all_goals
  simp only[yR,List.length_cons,List.length_nil]at *
  omega⟩
instance (i:Int) (n:Nat):Decidable (xe i n):=inferInstanceAs (Decidable (_/\_))
instance (a b c d:Nat):Decidable (j6 a b c d):=inferInstanceAs (Decidable (_/\_))
instance (a b c d:Nat):Decidable (zu a b c d):=inferInstanceAs (Decidable (_/\_/\_))
instance (a b:Int) (c:Nat):Decidable (jv a b c):=inferInstanceAs (Decidable (_/\_/\_))
instance (a b c:Int) (d:Nat):Decidable (znz a b c d):=inferInstanceAs (Decidable (_/\_/\_/\_))
instance (a b:Int) (c:Nat):Decidable (dS a b c):=inferInstanceAs (Decidable (_/\_/\_/\_))
instance (a b c d e f g:Nat):Decidable (vZ a b c d e f g):=inferInstanceAs (Decidable (_/\_/\_/\_))
instance (a b c d e:Nat):Decidable (Xo a b c d e):=inferInstanceAs (Decidable (_/\_))
instance (n:Int):Decidable (wfI n):=inferInstanceAs (Decidable (_=true))
instance (y:Bool) (n:Int) (l:List Int):Decidable (z45 y n l):=inferInstanceAs (Decidable (_/\_/\_))
noncomputable def nx {σ ρ:Type} (r:σ->T (σ⊕ρ)):σ⊕ρ->Option ρ
 | .inl s=>(T.loop r s).run
 | .inr y=>some y
theorem zbP{σ ρ:Type}{r:σ->T (σ⊕ρ)}{s:σ}{z:σ⊕ρ}{x:ρ}(h:(r s).run=some z)(k:nx r z=some x):(T.loop r s).run=some x:=by
 cases z with
 | inl s'=>rw[WA h]; exact k
 | inr y=>rw[rf h]; exact k
theorem nxL{σ ρ:Type}{r:σ->T (σ⊕ρ)}{s:σ}{x:ρ}(k:(T.loop r s).run=some x):nx r (.inl s)=some x:=k
theorem nxR{σ ρ:Type}{r:σ->T (σ⊕ρ)}{y:ρ}:nx r (.inr y)=some y:=rfl
theorem zb9{α β:Type}{t:T α}{f:α->T β}{a:α}{x:β}(h:t.run=some a)(k:(f a).run=some x):(t.bind f).run=some x:=(zt h f).trans k
theorem zj3{α:Type}{b:Bool}{t e:T α}{x:α}(h:b=true)(k:t.run=some x):(T.ite b t e).run=some x:=by subst h; exact k
theorem zj2{α:Type}{b:Bool}{t e:T α}{x:α}(h:b=false)(k:e.run=some x):(T.ite b t e).run=some x:=by subst h; exact k
theorem zjp{α:Type}{p:Prop}{t:T α}{x:α}(h:p)(k:t.run=some x):(T.zl p t).run=some x:=(xg h t).trans k
theorem elL{α β γ:Type}{f:α->T γ}{g:β->T γ}{a:α}{x:γ}(h:(f a).run=some x):(zL f g (.inl a)).run=some x:=h
theorem elR{α β γ:Type}{f:α->T γ}{g:β->T γ}{a:β}{x:γ}(h:(g a).run=some x):(zL f g (.inr a)).run=some x:=h
theorem zcV{a:zn}(h:(decide (a.length<4294967281)&&a.all λb=>decide (b.toNat<128))=true):(strings_makeASCIISet a).run=some (mm a,true):=by
 simp only[Bool.and_eq_true,decide_eq_true_eq,List.all_eq_true]at h
 unfold strings_makeASCIISet
 rw[xg ⟨h.1,λj b J=>h.2 b (zQ J)⟩,xy]
theorem evd{α:Type}{t:T α}{x y:α}(h:t.run=some x)(k:x=y):t.run=some y:=by rw[h,k]
theorem zcY{e:Type}{a:List e}{n:Nat}(h:vZ 0 0 0 0 0 a.length n):(T.zl (a=[]->∀ r,T.leads (.zl (vZ 0 0 0 0 0 a.length n)<|.zl (0+a.length=0+a.length)<|.ret (zI 0 (R (0+(0+a.length)) a)):T _) r->T.leads (.ret ([]:List e):T _) r)<|.zl (vZ 0 0 0 0 0 a.length n)<|.zl (0+a.length=0+a.length)<|.ret (zI 0 (R (0+(0+a.length)) a)):T (List e)).run=some a:=by
 have e0:zI 0 (R (0+(0+a.length)) a)=a:=qw
 rw[e0,xg (λe r h=>by rw[e]at h; exact h.2.2),xg h,xg rfl,xy]
theorem zcZ{e:Type}{a:List e}{n:Nat}(h:vZ 0 0 0 0 0 a.length n):(T.zl (a=[]->∀ r,T.leads (.zl (vZ 0 0 0 0 0 a.length n)<|.zl (zu (0+a.length) 0 (0+a.length) a.length)<|.zl (0+a.length=a.length)<|.ret a:T _) r->T.leads (.zl (zu 0 0 0 0)<|.zl ((0:Nat)=0)<|.ret ([]:List e):T _) r)<|.zl (vZ 0 0 0 0 0 a.length n)<|oM (0+a.length) a.length<|.ret a:T (List e)).run=some a:=by
 have e0:0+a.length=a.length:=Nat.zero_add _
 rw[xg (λe r h=>by rw[e]at h; exact⟨⟨rfl,rfl,rfl⟩,rfl,h.2.2.2⟩),xg h]
 show(T.zl _ (T.zl _ _)).run=_
 rw[xg ⟨e0,rfl,e0⟩,xg e0,xy]
theorem zgC(N:Nat){σ ρ:Type}{b:(σ->T ρ)->σ->T ρ}{x:σ}{y:ρ}(h:∀ k,(V5 b (k+N) x).run=some y):(T.fix b x).run=some y:=by
 rw[yN,mI]
 exact⟨N,λm hm=>T.yN.1 (by have:=h (m-N); rwa [Nat.sub_add_cancel hm]at this)⟩
theorem zoH{σ ρ:Type}{b:(σ->T ρ)->σ->T ρ}{m:Nat}{x:σ}{y:ρ}(h:(b (V5 b m) x).run=some y):(V5 b (m+1) x).run=some y:=h
set_option maxRecDepth 100000 in
set_option maxHeartbeats 20000000 in
theorem ze0:yO.run=some true:=by
 unfold yO
 apply evd
 ·repeat first
    | with_reducible exact xy _
    | with_reducible exact nxR
    | with_reducible apply nxL
    | with_reducible apply zb9
    | with_reducible apply zbP
    | (with_reducible apply zgC 6; intro k)
    | with_reducible apply zoH
    | with_reducible apply elL
    | with_reducible apply elR
    | (with_reducible apply zjp; · first | decide +kernel | (intro e r h; rw[e]at h; simpa[T.leads]using h))
    | with_reducible apply zj3 (by decide +kernel)
    | with_reducible apply zj2 (by decide +kernel)
    | with_reducible exact zcV (by decide +kernel)
    | dsimp only
    | exact zcY (by decide +kernel)
    | exact zcZ (by decide +kernel)
    | apply zb9
    | (apply zjp; · first | decide +kernel | (intro e r h; rw[e]at h; simpa[T.leads]using h))
    | apply zj3 (by decide +kernel)
    | apply zj2 (by decide +kernel)
    | apply zbP
    | (apply zgC 6; intro k)
    | exact xy _
 ·kernel_rfl
open T PL
theorem zgg{l:List Op}{n:Int}(h:okL l n)(hr:∀ o∈l,rg o.2.2.1){i:Int}(i0:0<=i)(i1:i<l.length)(i2:i<n):Ov (nth l i (zb mU)):=by
 have:=h i i0 i1 i2
 exact⟨hr _ (xj i0 i1),by unfold rl; omega⟩
theorem z2M(hk:yO.run=some true):(T.bind yO λh=>T.ret h).wp λr=>r=true:=xc (gI hk (zd rfl))
theorem nmd{α:Type}(l:List α)(d:α)(g:α->zn)(c:zn)(B:l.length<=10000) :
  (T.loop (λa:Int=>T.ite (decide (a<(l.length:Int))) (oI a l<|T.ite (xx (g (nth l a d)) c) (.ret (.inr (.inr true))) (.ret (.inl (q9 (a+1))))) (.ret (.inr (.inl ()))):Int->T (Int⊕(Unit⊕Bool))) 0).wp λz=>z.elim (λ_=>∀ x∈l,g x≠c) λb=>b=true:=by
 refine vY (σ:=Int) (λi=>0<=i/\i<=l.length/\∀ j:Int,0<=j->j<i->g (nth l j d)≠c) (λi=>(l.length-i).toNat) ⟨Z,Z,λj _ _=>Z⟩ λi ⟨i0,i1,hi⟩ => ?_
 refine ze (λV => ?_) λV=>zd λx U => ?_
 ·have V:=uC V
  have hw:q9 (i+1)=i+1:=qs (Z) (Z)
  refine qo ⟨i0,V⟩ (ze (λ_=>zd rfl) λe=>zd ?_)
  rw[hw]
  refine⟨⟨Z,Z,λj j0 j1 => ?_⟩,Z⟩
  by_cases q:j=i
  ·subst q; simpa[xx]using e
  ·exact hi j j0 (Z)
 ·have V:=ga V
  obtain⟨j,j0,j1,rfl⟩:=J0 (d:=d) U
  exact hi j j0 (Z)
instance (f:Form) (s:zn):Sp (rB f s) (FW 8200 f/\fm f s) (λr=>r=true):=⟨λ⟨hF,hm⟩=>by
 have n2:=hF.2.1.1
 have n4:=hF.2.2.2.1.1
 have n5:=hF.2.2.2.2.1.1
 have n6:=hF.2.2.2.2.2.1
 unfold rB
 refine xc (xp (nmd f.2.2.2.1 (zb qq) (·.1) s (Z)) λz h1 => ?_)
 cases z with
 | inr b=>exact zd h1
 | inl =>
 refine xc (xp (nmd f.2.2.2.2.1 (zb xl) (·.1) s (Z)) λz X => ?_)
 cases z with
 | inr b=>exact zd X
 | inl =>
 refine xc (xp (nmd f.2.2.2.2.2.1 (zb xi) (·.1) s (Z)) λz h3 => ?_)
 cases z with
 | inr b=>exact zd h3
 | inl =>
 refine xc (xp (nmd f.2.1 (zb qe) (·.1) s (Z)) λz h4 => ?_)
 cases z with
 | inr b=>exact zd h4
 | inl =>
 exfalso
 rcases hm with⟨x,U,e⟩ | ⟨x,U,e⟩ | ⟨x,U,e⟩ | ⟨x,U,e⟩
 ·exact h4 x U e
 ·exact h1 x U e
 ·exact X x U e
 ·exact h3 x U e⟩
theorem z8m(l:List Op)(f:Form)(i:Int)(c:zk)(a:Answer)(hF:FW 8200 f)(ha:a.2.1.length<=70000000)(hm:∀ s∈a.2.1,fm f s):(hH l f i (0,c,a)).wp λz=>z=.inl (c,a):=by
 unfold hH
 refine vY (λz:Int×zk×Answer=>∃ k:Int,z=(k,c,a)/\0<=k/\k<=a.2.1.length) (λz:Int×zk×Answer=>((a.2.1.length:Int)-z.1).toNat) ⟨0,rfl,qh,Z⟩ ?_
 rintro _ ⟨k,rfl,k0,k1⟩
 unfold hZ
 refine ze (λV => ?_) λV=>zd rfl
 have V:=uC V
 have hw:q9 (k+1)=k+1:=qs (Z) (Z)
 refine qo ⟨k0,V⟩ (za ⟨hF,hm _ (xj k0 V)⟩ ?_)
 rintro _ rfl
 refine wz rfl (zd ?_)
 rw[hw]
 exact⟨⟨k+1,rfl,Z,Z⟩,by simp only; omega⟩
theorem z4L(hk:yO.run=some true)(f:Form)(l:List Op)(hf:FW KK f)(B:l.length<=KK)(hr:∀ o∈l,rg o.2.2.1):(c8 f l).run=some true:=by
 suffices h:(c8 f l).wp (λr=>r=true) by
  obtain⟨a,h1,X⟩:=T.fK.1 h
  rw[h1,X]
 have K:=z2M hk
 unfold c8 o8
 refine xc (xp (P:=λr=>r=false->FW 8200 f/\okL l 25) (za hf λc hc=>ze (λ_=>zd nofun) λe=>za B λd V=>zd λq=>⟨hc e,V q⟩) λe he=>ze (λ_=>zd rfl) λe2 => ?_)
 obtain⟨hF,hO⟩:=he e2
 refine xc (xp (P:=λz:zk⊕Unit=>z.elim (λg=>Ei g/\Ow f g.1) λ_=>True) (za hF λz hz => ?_) λz hz => ?_)
 ·rcases z with⟨m,n,g⟩ | ⟨p,k⟩
  ·exact ze (λ_=>zd trivial) λ_=>zd hz.2
  ·exact ze (λ_=>zd trivial) λ_=>zd trivial
 rcases z with g | u
 ·obtain⟨hE,hW⟩:=hz
  refine wz rfl (xc (xp (P:=λz=>∃ d,z=.inl d) ?_ ?_))
  ·unfold dz
   refine vY (λz:Int×zk=>0<=z.1/\z.1<=l.length/\Ei z.2/\Ow f z.2.1) (λz=>((l.length:Int)-z.1).toNat) ⟨zJ _,by show(0:Int)<=_; omega,hE,hW⟩ ?_
   rintro⟨i,d⟩ ⟨i0,i1,V,hw⟩
   dsimp only at i0 i1 V hw
   unfold hJ
   refine ze (λhc => ?_) λ_=>zd ⟨d,rfl⟩
   have hc:=zG.1 hc
   have d1:i<(l.length:Int):=uC hc.1
   have d2:i<25:=uC hc.2
   have hw1:q9 (i+1)=i+1:=qs (Z) (Z)
   obtain⟨s,hs,_⟩:=T.fK.1 (Sp.sp (t:=vN d) V)
   refine xc (gI hs (qo ⟨i0,d1⟩ (za ⟨V,zgg hO hr i0 d1 d2⟩ λ⟨a,c⟩ ha => ?_)))
   obtain⟨⟨h1,X,h3,h4⟩,-⟩:=ha
   have h1:Ei c:=h1
   have h3:c.1=d.1:=h3
   have fin:(T.ret (Sum.inl (q9 (i+1),c)):T ((Int×zk)⊕(zk⊕(Bool×zk)))).wp λz=>match z with | .inl s'=>(0<=s'.1/\s'.1<=l.length/\Ei s'.2/\Ow f s'.2.1)/\((l.length:Int)-s'.1).toNat<((l.length:Int)-i).toNat | .inr y=>∃ d,y=.inl d:=by
    rw[hw1]
    exact zd ⟨⟨by show 0<=i+1; omega,by show i+1<=_; omega,h1,by show Ow f c.1; rw[h3]; exact hw⟩,by simp only; omega⟩
   refine ze (λ_=>fin) λe => ?_
   obtain⟨e1,e2,e3⟩:=h4 (by simpa using e)
   have e1:c=d:=e1
   subst e1
   refine xc (gI hs (wz (by simp[xx]) (xc (xp (z8m l f i c a hF X λt ht=>hw.2.2 t (e3 t ht)) ?_))))
   rintro _ rfl
   exact fin
  ·rintro _ ⟨d,rfl⟩
   exact K
 ·exact vD rfl K
theorem ze5(x:Ge [qv,.sl mU])(hw:wfL [qv,.sl mU] x)(J:bkL [qv,.sl mU] x<=1048576):FW KK x.1/\I x.2.1<=KK/\∀ o∈x.2.1,rg o.2.2.1:=by
 have kk:KK=2000000:=rfl
 have e:bkL [qv,.sl mU] x=bk qv x.1+(bk (.sl mU) x.2.1+0):=rfl
 have:=bl (τ:=mU) x.2.1
 exact⟨zcy _ hw.1 (Z),Z,λo ho=>rg_of (hw.2.1 o ho).2.2.1⟩
theorem Uc(x:Ge [qv,.sl mU])(hw:wfL [qv,.sl mU] x)(J:bkL [qv,.sl mU] x<=1048576):(c8 (z0v [qv,.sl mU] x).1 (z0v [qv,.sl mU] x).2).run=some true:=z4L ze0 x.1 x.2.1 (ze5 x hw J).1 (ze5 x hw J).2.1 (ze5 x hw J).2.2
end Go.AM.Lf
