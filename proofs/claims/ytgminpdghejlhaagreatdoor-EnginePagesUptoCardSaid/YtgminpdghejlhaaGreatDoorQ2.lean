/-
  Plain laws of the lifted program, part 2.
-/
import Derived.Test.YtgminpdghejlhaaGreatDoorLf1
import Derived.Test.YtgminpdghejlhaaGreatDoorAmA
import Derived.Test.YtgminpdghejlhaaGreatDoorAmD
import Derived.KernelRfl
import Derived.Test.YtgminpdghejlhaaGreatDoorQ0
import Derived.Test.YtgminpdghejlhaaGreatDoorQ1
set_option linter.unusedVariables false
open Nat renaming le_trans -> zA, zero_le -> Y, le_refl -> zG, le_of_eq -> zR
open List renaming take -> I, length_take -> zE, drop -> zH, mem_of_mem_take -> zI, getD_eq_getElem?_getD -> zJ, length_drop -> zL, sizeOf_lt_of_mem -> zN, mem_of_getElem? -> zO, mem_of_mem_drop -> zP
open Int renaming le_refl -> W
open Bool renaming and_eq_true_iff -> zF, and_eq_true -> zK
open Sum renaming elim -> zM
open SizeOf renaming sizeOf -> zQ
open Go.AM.T (BF J8 J9 WM XN Zm bB fX je mF mS qq sR sd uH ug vF vG vM vX vY vq vy wk xe xf xv xz yT z8 za zc ze zf zj zq)
namespace Go.AM.Lf
open T PL
theorem goz{p:Prop} (h:p:=by
 intros
 repeat' (with_reducible first
  | refine ze ?_
  | refine zf (λ_ => ?_) (λ_ => ?_)
  | refine z8 ?_
  | refine zc ?_
  | refine uH ?_ ?_
  | refine qq ?_ ?_
  | refine vX ?_ ?_
  | refine vq ?_ ?_
  | refine zj ?_ ?_
  | refine vY (λ_ _ => ?_) (λ_ _ => ?_)
  | refine za ?_ (λ_ _ => ?_)
  | refine vG ?_ (λ_ _ => ?_)
  | refine xf ?_
  | dsimp only)
 all_goals grind [xb,uT,zu,ja,List.length_set]):p:=h
instance (a:wg):Sp (mv a) (Dw a) (λr=>r=((),a.1,a.2.1,a.2.2.1,a.2.2.2.1,a.2.2.2.2.1,a.2.2.2.2.2.1)):=⟨λ⟨h1,X,h3,h4,h5,h6⟩=>by
 have k1:=h1.1
 have k3:=h3.1
 have k5:=h5.1
 unfold mv
 exact goz⟩
theorem MB{l:List Int}(h:ou l)(i:Nat){x:Int}(U : -1<=x/\x<1000000000000000000):ou (l.set i x):=λy hy=>by
 rcases List.mem_or_eq_of_mem_set hy with k | rfl
 ·exact h y k
 ·exact U
def z0h(w:wg)(a:List Int)(d:List wz):Prop:=ou a/\a.length=w.2.2.2.1.length/\Ps d/\d.length=w.2.2.2.2.1.length
instance (w:wg) (x:List Lf.Rat) (y:ux):Sp (gR w x y) (Dw w/\(Sys y/\ou y.2.2.1)/\w.2.2.2.1.length=y.1.2.2.2.2.1.length/\w.2.2.2.2.1.length=y.1.2.2.2.1.length)
  (λr=>∃ (a:List Int) (d:List wz),r=((x,()),y,w.1,w.2.1,a,d,w.2.2.2.2.2.1)/\z0h w a d):=⟨λ⟨hD,⟨hS,hou⟩,hR,hF⟩=>by
 have V:=hD.2.2.2.2.1
 have ho:=hD.2.2.2.1
 have hd2:=V.1
 obtain⟨s1,s2,s3,s4⟩:=hS
 have s5:=s1.1
 unfold gR
 refine za hD λ_ e => ?_
 subst e
 refine zc (zc (zc (zc (zc (z8 (z8 (z8 (z8 (z8 (z8 (xf (xv (P:=λz=>∃ (k:wg) (a:List Int),z=(y,(x,()),k,w.1,w.2.1,w.2.2.1,a,w.2.2.2.2.1,w.2.2.2.2.2.1)/\ou a/\a.length=w.2.2.2.1.length) ?_ ?_))))))))))))
 ·unfold ny
  refine ug (λz=>∃ (i:Int) (k:wg) (a:List Int),z=(i,y,(x,()),k,w.1,w.2.1,w.2.2.1,a,w.2.2.2.2.1,w.2.2.2.2.2.1)/\(ou a/\a.length=w.2.2.2.1.length)/\0<=i/\i<=w.2.2.2.1.length) (λz=>(w.2.2.2.1.length-z.1).toNat) ⟨0,_,_,rfl,⟨hD.2.2.2.2.2.2,rfl⟩,qj,Z⟩ ?_
  rintro _ ⟨i,k,a,rfl,⟨hoa,ha⟩,i0,i1⟩
  unfold dD
  refine zf (λhi => ?_) λhi => ?_
  ·have hi:=uY hi
   have hw:ql (i+1)=i+1:=qv (Z) (Z)
   refine qq ⟨i0,Z⟩ (zj ⟨rfl,Z⟩ (zc (zc (zj ⟨by rw[List.length_set],rfl,by rw[List.length_set]⟩ (zc (zc (z8 (z8 (z8 (zj (by rw[List.length_set]) (z8 (z8 (ze ?_)))))))))))))
   rw[hw]
   exact⟨⟨i+1,k,_,rfl,⟨MB hoa _ (qj),by rw[List.length_set]; exact ha⟩,Z,Z⟩,by simp only; omega⟩
  ·exact zc (zc (zc (zc (zc (z8 (z8 (z8 (z8 (z8 (z8 (ze ⟨k,a,rfl,hoa,ha⟩)))))))))))
 ·rintro _ ⟨k,a,rfl,hoa,ha⟩
  refine zc (zc (zc (zc (zc (z8 (z8 (z8 (z8 (z8 (z8 (xf (xv (P:=λz=>∃ (k:wg) (a:List Int) (d:List wz),z=(y,(x,()),k,w.1,w.2.1,w.2.2.1,a,d,w.2.2.2.2.2.1)/\z0h w a d) ?_ ?_))))))))))))
  ·unfold nA
   refine ug (λz=>∃ (i:Int) (k:wg) (a:List Int) (d:List wz),z=(i,y,(x,()),k,w.1,w.2.1,w.2.2.1,a,d,w.2.2.2.2.2.1)/\z0h w a d/\0<=i/\i<=y.2.2.1.length) (λz=>(y.2.2.1.length-z.1).toNat) ⟨0,_,_,_,rfl,⟨hoa,ha,V,rfl⟩,qj,Z⟩ ?_
   rintro _ ⟨i,k,a,d,rfl,⟨hoa,ha,V,Fm⟩,i0,i1⟩
   unfold dE
   refine zf (λhi => ?_) λhi => ?_
   ·have hi:=uY hi
    have hw:ql (i+1)=i+1:=qv (Z) (Z)
    have hio:i<y.2.2.2.1.length:=Z
    have hh:=s4 _ (xo (d:=di) i0 hio)
    have h0:(0:Int)<=nth y.2.2.2.1 i di:=hh.1
    have h1:(y.1.2.2.2.2.1.length+y.1.2.2.2.1.length:Int) > nth y.2.2.2.1 i di:=hh.2
    refine qq ⟨i0,hi⟩ (qq ⟨i0,hio⟩ (zf (λe => ?_) λe => ?_))
    ·have e:(a.length:Int) > nth y.2.2.2.1 i di:=uY e
     have e':0+(nth y.2.2.2.1 i di).toNat<a.length:=Z
     refine qq ⟨h0,e⟩ (zj ⟨rfl,e'⟩ (zc (zc (zj ⟨by rw[List.length_set],rfl,by rw[List.length_set]⟩ (zc (zc (z8 (z8 (z8 (zj (by rw[List.length_set]) (z8 (z8 (ze ?_)))))))))))))
     rw[hw]
     exact⟨⟨i+1,k,_,d,rfl,⟨MB hoa _ (hou _ (xo (d:=di) i0 (Z))),by rw[List.length_set]; exact ha,V,Fm⟩,Z,Z⟩,by simp only; omega⟩
    ·have e:¬ (a.length:Int) > nth y.2.2.2.1 i di:=hZ e
     have hwm:ql (nth y.2.2.2.1 i di-a.length)=nth y.2.2.2.1 i di-a.length:=qv (Z) (Z)
     have e1:(0:Int)<=ql (nth y.2.2.2.1 i di-a.length)/\(d.length:Int) > ql (nth y.2.2.2.1 i di-a.length):=by rw[hwm]; omega
     have e2:0+(ql (nth y.2.2.2.1 i di-a.length)).toNat<d.length:=Z
     have hp:=Nt d _ V e2
     refine qq e1 (zj ⟨rfl,e2⟩ (zc (zc (zc (zj ⟨by rw[List.length_set],rfl,by rw[List.length_set]⟩ (zc (z8 (z8 (z8 (z8 (zj (by rw[List.length_set]) (z8 (ze ?_)))))))))))))
     rw[hw]
     exact⟨⟨i+1,k,a,_,rfl,⟨hoa,ha,Cx _ _ _ V hp.1 hp.2,by rw[List.length_set]; exact Fm⟩,Z,Z⟩,by simp only; omega⟩
   ·exact zc (zc (zc (zc (zc (z8 (z8 (z8 (z8 (z8 (z8 (ze ⟨k,a,d,rfl,hoa,ha,V,Fm⟩)))))))))))
  ·rintro _ ⟨k,a,d,rfl,hT⟩
   exact zc (zc (zc (zc (zc (z8 (z8 (z8 (z8 (z8 (ze ⟨a,d,rfl,hT⟩))))))))))⟩
def Dx(f:Form)(d:wg):Prop:=Dw d/\FV f/\f.2.2.2.1.length<=64/\f.2.2.2.2.1.length<=64/\d.2.2.1.length=f.2.2.2.1.length/\d.2.2.2.1.length=f.2.2.2.2.1.length/\d.2.2.2.2.1.length=f.2.2.2.1.length/\d.2.2.2.2.2.1.length=f.2.2.2.1.length/\d.1.length=f.2.1.length/\d.2.1.length=f.1.length
theorem zaa{α:Type}{t:T α}{Q:α->Prop}(k:t.wp Q):(T.zl (zu 0 0 0 0) (T.zl (zu 0 0 0 0) (T.zl (zu 0 0 0 0) (T.zl (zu 0 0 0 0) (oZ (T.zl ((0:Nat)=0) (T.zl ((0:Nat)=0) (T.zl ((0:Nat)=0) (T.zl ((0:Nat)=0) t))))))))).wp Q:=by
 have c:zu 0 0 0 0:=⟨rfl,rfl,rfl⟩
 exact⟨c,c,c,c,c,rfl,rfl,rfl,rfl,rfl,k⟩
theorem zeI{α A hl C D κ':Type}{a:List A}{b:List hl}{c:List C}{d:List D}{e:List κ'}{t:T α}{Q:α->Prop}(k:t.wp Q):(oC a (oC b (oC c (oC d (oC e (R a (R b (R c (R d (R e t)))))))))).wp Q :=
 zc (zc (zc (zc (zc (z8 (z8 (z8 (z8 (z8 k)))))))))
abbrev D8(r:((List Lf.Rat)×Unit)×(List zo)×Int×(List Lf.Rat)×(List Bool)×(List Int)×(List wz)×(List Bool)):wg:=(r.2.2.2.1,r.2.2.2.2.1,r.1.1,r.2.2.2.2.2.1,r.2.2.2.2.2.2.1,r.2.2.2.2.2.2.2,())
instance (f:Form) (d:wg):Sp (en f d) (FW 8200 f/\Dw d) (λr=>(r.2.2.1=0->Dx f (D8 r)/\1<=f.2.2.2.1.length)/\r.2.1.length<=1):=⟨λ⟨hF,hD⟩=>by
 unfold en
 refine za ⟨hF,hD⟩ λz hz => ?_
 rcases z with⟨k,a,b,c,e⟩ | ⟨n,m⟩
 ·obtain⟨rfl,rfl,⟨b1,b2,b3,b4⟩,hV,f1,f2,l1,l2,l3,l4,l5,l6,-⟩:=hz
  refine wk rfl (z8 (z8 (z8 ?_)))
  rw[db,db,db]
  refine za ⟨⟨b1,b2,b3,b4⟩,hD.2.2.1,by show a.2.2.2.2.1.length<=_; omega,by show a.2.2.2.1.length<=_; omega⟩ λ⟨v,ns,err,y⟩ hp=>zf (λe=>zaa (ze ⟨λq => ?_,hp.2⟩)) λe => ?_
  ·have q:err=0:=q
   rw[q]at e; cases e
  ·obtain⟨p1,p2,p3,p4,-,p5,p6⟩:=hp.1 (by simpa using e)
   have p4:y.1=a:=p4
   have p2:v.length=d.2.2.1.length:=p2
   refine za ⟨hD,⟨p3,p5⟩,by rw[p4]; omega,by rw[p4]; omega⟩ λ_ hr => ?_
   obtain⟨o,ps,rfl,B0,t1,t2,t3⟩:=hr
   exact zeI (ze ⟨λ_=>⟨⟨⟨hD.1,hD.2.1,p1,by show o.length<=_; omega,t2,hD.2.2.2.2.2.1,B0⟩,hV,f1,f2,by show v.length=_; omega,by show o.length=_; omega,by show ps.length=_; omega,l4,l5,l6⟩,Z⟩,Y _⟩)
 ·have hz:m≠0/\n.length<=1:=hz
  refine vy (by simpa using hz.1) (zaa (ze ⟨λq=>absurd q hz.1,hz.2⟩))⟩
open T PL
abbrev N12:=List Bool×List Bool×List Bool×List Bool×List wz×List wz×List Int×List Int×List Lf.Rat×List Lf.Rat×List Lf.Rat×List Lf.Rat
abbrev N15:=Int×Unit×Unit×N12
def ra(l:List Lf.Rat):Prop:=∀ x∈l,rg x/\rl x<=1700
def pa(l:List wz):Prop:=∀ x∈l,Pn x
def Nw(m n p r s:Nat)(t:N12):Prop:=t.2.2.1.length=m/\t.2.2.2.1.length=n/\(pa t.2.2.2.2.2.1/\t.2.2.2.2.2.1.length=n)/\(ou t.2.2.2.2.2.2.2.1/\t.2.2.2.2.2.2.2.1.length=p)/\(ra t.2.2.2.2.2.2.2.2.2.2.1/\t.2.2.2.2.2.2.2.2.2.2.1.length=r)/\(ra t.2.2.2.2.2.2.2.2.2.2.2/\t.2.2.2.2.2.2.2.2.2.2.2.length=s)
theorem KU{α:Type}(l:List α)(x:α):(l++[x]).length=l.length+1:=qu
theorem cu1{α:Type}(l:List α)(x:α):zu (l.length+1) 0 (l.length+1) (l++[x]).length:=by rw[KU]; exact⟨rfl,rfl,rfl⟩
instance (f:Form):Sp (Wc f) (F9 f) (λr=>(r.2.2.1=0->Dx f (D8 r)/\1<=f.2.2.2.1.length)/\r.2.1.length<=1):=⟨λ⟨hF,hp⟩=>by
 have n0:=hF.1.1
 have n1:=hF.2.1.1
 have n2:=hF.2.2.2.1.1
 have n3:=hF.2.2.2.2.1.1
 unfold Wc
 iterate 11 refine zj ⟨rfl,rfl,rfl⟩ ?_
 refine zj ⟨rfl,rfl,rfl⟩ (zj rfl ?_)
 iterate 11 refine zj rfl ?_
 refine xf (xv (P:=λz=>Nw 0 0 0 f.2.1.length 0 z.2.2) ?_ ?_)
 ·unfold Uh
  refine ug (λz:N15=>∃ k:Nat,z.1=(k:Int)/\k<=f.2.1.length/\Nw 0 0 0 k 0 z.2.2.2) (λz:N15=>((f.2.1.length:Int)-z.1).toNat) ⟨0,rfl,Z,rfl,rfl,⟨nofun,rfl⟩,⟨nofun,rfl⟩,⟨nofun,rfl⟩,nofun,rfl⟩ ?_
  rintro⟨_,u,v,c,d,e,g,h,i,j,k,l,m,a,b⟩ ⟨n,rfl,h1,w1,w2,⟨w3,w4⟩,⟨w0,w5⟩,⟨w6,w7⟩,w8,w9⟩
  dsimp only at w0 w1 w2 w3 w4 w5 w6 w7 w8 w9
  unfold ZQ
  refine zf (λV => ?_) λV => ?_
  ·have V:=uY V
   have hn:nth f.2.1 (n:Int) (zb qg)∈f.2.1:=xo (Z) V
   have q1:=hF.2.1.2 _ hn
   have q2:=hp _ hn
   have hw:ql ((n:Int)+1)=n+1:=qv (Z) (Z)
   refine qq ⟨Z,V⟩ (za ⟨q1.2.1,zA q2 (qj)⟩ λo ho => ?_)
   have q3:rl o<=max 1 (rl (nth f.2.1 (n:Int) (zb qg)).2.1):=ho.2.1
   repeat' (with_reducible first | refine z8 ?_ | refine zc ?_ | refine vX (Z) ?_ | refine zj (cu1 _ _) ?_ | refine zj (KU _ _).symm ?_ | refine ze ?_)
   rw[hw]
   exact⟨⟨n+1,rfl,Z,w1,w2,⟨w3,w4⟩,⟨w0,w5⟩,⟨jP w6 ⟨ho.1,Z⟩,by show(_++[_]).length=_; rw[KU]; omega⟩,w8,w9⟩,by simp only; omega⟩
  ·have V:=hZ V
   have e:n=f.2.1.length:=Z
   repeat' (with_reducible first | refine z8 ?_ | refine zc ?_)
   exact ze ⟨w1,w2,⟨w3,w4⟩,⟨w0,w5⟩,⟨w6,by show a.length=_; omega⟩,w8,w9⟩
 rintro⟨u,v,c,d,e,g,h,i,j,k,l,m,a,b⟩ ⟨w1,w2,⟨w3,w4⟩,⟨w0,w5⟩,⟨w6,w7⟩,w8,w9⟩
 dsimp only at w0 w1 w2 w3 w4 w5 w6 w7 w8 w9
 repeat' (with_reducible first | refine z8 ?_ | refine zc ?_)
 refine xf (xv (P:=λz=>Nw f.1.length 0 0 f.2.1.length 0 z.2.2) ?_ ?_)
 ·unfold Ui
  refine ug (λz:N15=>∃ k:Nat,z.1=(k:Int)/\k<=f.1.length/\Nw k 0 0 f.2.1.length 0 z.2.2.2) (λz:N15=>((f.1.length:Int)-z.1).toNat) ⟨0,rfl,Z,w1,w2,⟨w3,w4⟩,⟨w0,w5⟩,⟨w6,w7⟩,w8,w9⟩ ?_
  rintro⟨_,u,v,c,d,e,g,h,i,j,k,l,m,a,b⟩ ⟨n,rfl,h1,w1,w2,⟨w3,w4⟩,⟨w0,w5⟩,⟨w6,w7⟩,w8,w9⟩
  dsimp only at w0 w1 w2 w3 w4 w5 w6 w7 w8 w9
  unfold ZR
  refine zf (λV => ?_) λV => ?_
  ·have V:=uY V
   have hw:ql ((n:Int)+1)=n+1:=qv (Z) (Z)
   refine qq ⟨Z,V⟩ ?_
   repeat' (with_reducible first | refine z8 ?_ | refine zc ?_ | refine vX (Z) ?_ | refine zj (cu1 _ _) ?_ | refine zj (KU _ _).symm ?_ | refine ze ?_)
   rw[hw]
   exact⟨⟨n+1,rfl,Z,by show(_++[_]).length=_; rw[KU]; omega,w2,⟨w3,w4⟩,⟨w0,w5⟩,⟨w6,w7⟩,w8,w9⟩,by simp only; omega⟩
  ·have V:=hZ V
   have e':n=f.1.length:=Z
   repeat' (with_reducible first | refine z8 ?_ | refine zc ?_)
   exact ze ⟨by show e.length=_; omega,w2,⟨w3,w4⟩,⟨w0,w5⟩,⟨w6,w7⟩,w8,w9⟩
 clear w0 w1 w2 w3 w4 w5 w6 w7 w8 w9
 rintro⟨u,v,c,d,e,g,h,i,j,k,l,m,a,b⟩ ⟨w1,w2,⟨w3,w4⟩,⟨w0,w5⟩,⟨w6,w7⟩,w8,w9⟩
 dsimp only at w0 w1 w2 w3 w4 w5 w6 w7 w8 w9
 repeat' (with_reducible first | refine z8 ?_ | refine zc ?_)
 refine xf (xv (P:=λz=>Nw f.1.length f.2.2.2.1.length 0 f.2.1.length f.2.2.2.1.length z.2.2) ?_ ?_)
 ·unfold Uj
  refine ug (λz:N15=>∃ k:Nat,z.1=(k:Int)/\k<=f.2.2.2.1.length/\Nw f.1.length k 0 f.2.1.length k z.2.2.2) (λz:N15=>((f.2.2.2.1.length:Int)-z.1).toNat) ⟨0,rfl,Z,w1,w2,⟨w3,w4⟩,⟨w0,w5⟩,⟨w6,w7⟩,w8,w9⟩ ?_
  rintro⟨_,u,v,c,d,e,g,h,i,j,k,l,m,a,b⟩ ⟨n,rfl,h1,w1,w2,⟨w3,w4⟩,⟨w0,w5⟩,⟨w6,w7⟩,w8,w9⟩
  dsimp only at w0 w1 w2 w3 w4 w5 w6 w7 w8 w9
  unfold ZS
  refine zf (λV => ?_) λV => ?_
  ·have V:=uY V
   have hw:ql ((n:Int)+1)=n+1:=qv (Z) (Z)
   refine za ⟨qj,qj⟩ λp hp=>vX (Z) (za ⟨qj,qj⟩ λq hq => ?_)
   repeat' (with_reducible first | refine z8 ?_ | refine zc ?_ | refine vX (Z) ?_ | refine zj (cu1 _ _) ?_ | refine zj (KU _ _).symm ?_ | refine ze ?_)
   rw[hw]
   have hq1:rl q<=2:=hq.2
   exact⟨⟨n+1,rfl,Z,w1,by show(_++[_]).length=_; rw[KU]; omega,⟨jP w3 ⟨hq.1,zA hq1 (qj)⟩,by show(_++[_]).length=_; rw[KU]; omega⟩,⟨w0,w5⟩,⟨w6,w7⟩,jP w8 ⟨hp.1,Z⟩,by show(_++[_]).length=_; rw[KU]; omega⟩,by simp only; omega⟩
  ·have V:=hZ V
   have e:n=f.2.2.2.1.length:=Z
   repeat' (with_reducible first | refine z8 ?_ | refine zc ?_)
   exact ze ⟨w1,by show g.length=_; omega,⟨w3,by show i.length=_; omega⟩,⟨w0,w5⟩,⟨w6,w7⟩,w8,by show b.length=_; omega⟩
 clear w0 w1 w2 w3 w4 w5 w6 w7 w8 w9
 rintro⟨u,v,c,d,e,g,h,i,j,k,l,m,a,b⟩ ⟨w1,w2,⟨w3,w4⟩,⟨w0,w5⟩,⟨w6,w7⟩,w8,w9⟩
 dsimp only at w0 w1 w2 w3 w4 w5 w6 w7 w8 w9
 repeat' (with_reducible first | refine z8 ?_ | refine zc ?_)
 refine xf (xv (P:=λz=>Nw f.1.length f.2.2.2.1.length f.2.2.2.2.1.length f.2.1.length f.2.2.2.1.length z.2.2) ?_ ?_)
 ·unfold Uk
  refine ug (λz:N15=>∃ k:Nat,z.1=(k:Int)/\k<=f.2.2.2.2.1.length/\Nw f.1.length f.2.2.2.1.length k f.2.1.length f.2.2.2.1.length z.2.2.2) (λz:N15=>((f.2.2.2.2.1.length:Int)-z.1).toNat) ⟨0,rfl,Z,w1,w2,⟨w3,w4⟩,⟨w0,w5⟩,⟨w6,w7⟩,w8,w9⟩ ?_
  rintro⟨_,u,v,c,d,e,g,h,i,j,k,l,m,a,b⟩ ⟨n,rfl,h1,w1,w2,⟨w3,w4⟩,⟨w0,w5⟩,⟨w6,w7⟩,w8,w9⟩
  dsimp only at w0 w1 w2 w3 w4 w5 w6 w7 w8 w9
  unfold ZT
  refine zf (λV => ?_) λV => ?_
  ·have V:=uY V
   have hw:ql ((n:Int)+1)=n+1:=qv (Z) (Z)
   repeat' (with_reducible first | refine z8 ?_ | refine zc ?_ | refine vX (Z) ?_ | refine zj (cu1 _ _) ?_ | refine zj (KU _ _).symm ?_ | refine ze ?_)
   rw[hw]
   exact⟨⟨n+1,rfl,Z,w1,w2,⟨w3,w4⟩,⟨jP w0 (qj),by show(_++[_]).length=_; rw[KU]; omega⟩,⟨w6,w7⟩,w8,w9⟩,by simp only; omega⟩
  ·have V:=hZ V
   have e:n=f.2.2.2.2.1.length:=Z
   repeat' (with_reducible first | refine z8 ?_ | refine zc ?_)
   exact ze ⟨w1,w2,⟨w3,w4⟩,⟨w0,by show k.length=_; omega⟩,⟨w6,w7⟩,w8,w9⟩
 clear w0 w1 w2 w3 w4 w5 w6 w7 w8 w9
 rintro⟨u,v,c,d,e,g,h,i,j,k,l,m,a,b⟩ ⟨w1,w2,⟨w3,w4⟩,⟨w0,w5⟩,⟨w6,w7⟩,w8,w9⟩
 dsimp only at w0 w1 w2 w3 w4 w5 w6 w7 w8 w9
 repeat' (with_reducible first | refine z8 ?_ | refine zc ?_)
 rw[db,db,db,db,db,db]
 refine za ⟨hF,⟨by show a.length<=_; omega,w6⟩,by show e.length<=_; omega,⟨by show b.length<=_; omega,w8⟩,by show k.length<=_; omega,⟨by show i.length<=_; omega,w3⟩,by show g.length<=_; omega,w0⟩ λr hr=>zeI (ze hr)⟩
open T PL
theorem mR{α A hl C:Type}{a:List A}{b:List hl}{c:List C}{t:T α}{Q:α->Prop}(k:t.wp Q):(oC a (oC b (oC c (R a (R b (R c t)))))).wp Q:=zc (zc (zc (z8 (z8 (z8 k)))))
theorem Mh{α:Type}{a:List α}{i:Nat}{d:α}(h:i<a.length):wo a i d∈a:=by unfold wo; rw[zJ,List.getElem?_eq_getElem h]; exact List.getElem_mem h
instance (i:Int) (m:List Lf.Rat) (f:Form) (a:List vO) (b e:List Int):Sp (bF i m f a b e) (Bt f a b e/\0<=i/\i<a.length/\rs m) (λr=>∃ q,r=(q,f,a,b,e)):=⟨λ⟨⟨h1,X,h3,h4⟩,g0,g1,hv⟩=>by
 have hc:ck (wo a (0+i.toNat) (zb zp)):=h1.2 _ (Mh (Z))
 have n1:=h1.1
 unfold bF
 refine qq ⟨g0,g1⟩ (zj ⟨rfl,Z⟩ (qq ⟨g0,Z⟩ (zj ⟨rfl,Z⟩ (zf (λ_=>za ⟨hc,hv⟩ λo _=>mR (ze ⟨o,rfl⟩)) λ_ => ?_))))
 refine xf (xv (P:=λz=>∃ q,z=(q,f,a,b,e,wo a (0+i.toNat) (zb zp))) (zf (λ_=>za ⟨hc.1.2,zA (EI _) (zA hc.2.1 (qj))⟩ λq _=>mR (ze ⟨q,rfl⟩)) λ_=>mR (ze ⟨_,rfl⟩)) ?_)
 rintro _ ⟨q,rfl⟩
 dsimp only
 rw[db,db]
 have hB:Cw a/\b.length<=1000000:=⟨csw h1,Z⟩
 exact zf (λ_=>z8 (z8 (za hB λs _=>mR (ze ⟨s,rfl⟩)))) λ_=>zf (λ_=>z8 (z8 (za hB λs _=>mR (ze ⟨s,rfl⟩)))) λ_=>mR (ze ⟨_,rfl⟩)⟩
instance (a:Lf.Rat):Sp (cB a) (rg a/\rl a<=1700) (λr=>r=true->rl (norm a)<=16):=⟨λh=>by
 have h1:rl a<=5000000:=zA h.2 (qj)
 have X:rl a<=50000000:=zA h.2 (qj)
 unfold cB
 exact za ⟨h.1,h1⟩ λb _=>zf (λ_=>za ⟨h.1,X⟩ λc hc=>ze λe=>hc (by simpa using e)) λ_=>ze nofun⟩
instance (a:Lf.Rat):Sp (fN a) (rg a/\rl a<=1700) (λ_=>True):=⟨λh=>by
 unfold fN
 exact za h λb _=>ze trivial⟩
instance (a:wz):Sp (fO a) (Pn a) (λ_=>True):=⟨λh=>by
 have X:rl a.2.2.1<=50000000:=zA h.2 (qj)
 unfold fO Jy
 exact za (s:=⟨λ_=>za h λb _=>zf (λ_=>zf (λ_=>ze trivial) λ_=>zf (λ_=>za ⟨h.1,X⟩ λc _=>ze trivial) λ_=>ze trivial) λ_=>ze trivial⟩) (pre:=True) (post:=λ_=>True) trivial λ_ _=>ze trivial⟩
instance (f:Form) (d:wg):Sp (Xe f d) (FW 8200 f/\Dw d) (λr=>r=true->Dx f d):=⟨λ⟨hF,hD⟩=>by
 unfold Xe
 refine za ⟨hF,hD⟩ λz hz => ?_
 have hv:d.2.2.1.length<=1000000000000:=zA hD.2.2.1.1 (qj)
 have hp:d.2.2.2.2.1.length<=1000000000000:=zA hD.2.2.2.2.1.1 (qj)
 rcases z with⟨k,a,b,c,e⟩ | ⟨n,m⟩
 ·obtain⟨rfl,rfl,hB,hV,f1,f2,l1,l2,l3,l4,l5,l6,-⟩:=hz
  have hX:Dx a d:=⟨hD,hV,f1,f2,l1,l2,l3,l4,l5,l6⟩
  have n1:=hB.1.1
  have n2:=hB.2.1
  have n3:=hB.2.2.1
  refine wk rfl (za ⟨hv,hD.2.2.1.2⟩ λx _=>zf (λ_=>ze nofun) λ_=>za ⟨hp,hD.2.2.2.2.1.2⟩ λy _=>zf (λ_=>ze nofun) λ_=>mR ?_)
  refine xf (xv (P:=λz=>z=.inl (a,b,c,e)\/∃ w,z=.inr (false,w)) ?_ ?_)
  ·unfold Bm
   refine ug (λz:Int×Form×List vO×List Int×List Int=>∃ i:Int,z=(i,a,b,c,e)/\0<=i/\i<=d.2.2.2.1.length) (λz:Int×Form×List vO×List Int×List Int=>((d.2.2.2.1.length:Int)-z.1).toNat) ⟨0,rfl,qj,Z⟩ ?_
   rintro _ ⟨i,rfl,i0,i1⟩
   unfold Jv
   refine zf (λV => ?_) λV=>zc (zc (zc (z8 (z8 (z8 (ze (.inl rfl)))))))
   have V:=uY V
   have hw:ql (i+1)=i+1:=qv (Z) (Z)
   refine qq ⟨i0,V⟩ (xf (xv (P:=λz=>∃ q,z=(q,a,b,c,e)) (zf (λ_=>z8 ?_) λ_=>mR (ze ⟨_,rfl⟩)) ?_))
   ·rw[db]
    exact za (Z) λq _=>mR (ze ⟨_,rfl⟩)
   ·rintro _ ⟨q,rfl⟩
    refine zf (λ_=>mR (ze (.inr ⟨_,rfl⟩))) λ_=>mR (ze ?_)
    rw[hw]
    exact⟨⟨i+1,rfl,Z,Z⟩,by simp only; omega⟩
  ·rintro _ (rfl | ⟨w,rfl⟩)
   ·refine z8 (z8 ?_)
    rw[db,db]
    refine za ⟨csw hB.1,Z⟩ λn hn=>zf (λ_=>ze nofun) λ_=>mR ?_
    refine xf (xv (P:=λz=>True) ?_ λz _ => ?_)
    ·unfold Bn
     refine ug (λz:Int×Form×List vO×List Int×List Int=>∃ i:Int,z=(i,a,b,c,e)/\0<=i/\i<=b.length) (λz:Int×Form×List vO×List Int×List Int=>((b.length:Int)-z.1).toNat) ⟨0,rfl,qj,Z⟩ ?_
     rintro _ ⟨i,rfl,i0,i1⟩
     unfold Jw
     refine zf (λV=>mR ?_) λV=>mR (ze trivial)
     have V:=uY V
     have hw:ql (i+1)=i+1:=qv (Z) (Z)
     refine za ⟨hB,i0,V,hD.2.2.1⟩ λ_ ⟨q,hq⟩ => ?_
     subst hq
     refine zf (λ_=>mR (ze trivial)) λ_=>mR (ze ?_)
     rw[hw]
     exact⟨⟨i+1,rfl,Z,Z⟩,by simp only; omega⟩
    ·rcases z with z | z
     ·exact ze λ_=>hX
     ·exact ze λ_=>hX
   ·exact ze nofun
 ·have hz:m≠0/\n.length<=1:=hz
  exact vy (by simpa using hz.1) (ze nofun)⟩
open T PL
theorem nz{p:Prop}{a:Int}(h:a≠0):a=0->p:=λq=>absurd q h
instance (a:Field) (s:zo):Sp (ek a s) True (λ_=>True):=⟨λ_=>by unfold ek; exact ze trivial⟩
instance (f:Form) (s:zo):Sp (Zd f s) (f.2.2.2.1.length<=8200) (λr => -1<=r/\r<f.2.2.2.1.length):=⟨λh=>by
 unfold Zd
 refine za ⟨Z,λ_ _=>trivial⟩ λr hr=>ze ?_
 rcases hr with⟨rfl,_⟩ | ⟨h1,X,_⟩<;>omega⟩
theorem z6i(a:ux)(h:Sys a)(b:Int):Sys (a.1,jS (e:=zp) 0 b a.2.1,jS (e:=.int .i64) 0 b a.2.2.1,jS (e:=.int .i64) 0 b a.2.2.2.1,()):=by
 obtain⟨⟨h1,X⟩,h3,h4,h5⟩:=h
 exact⟨⟨zA (List.length_take_le' ..) h1,λc hc=>X c (zI hc)⟩,by show(I _ _).length=(I _ _).length; rw[zE,zE,h3],by show(I _ _).length=(I _ _).length; rw[zE,zE,h4],λi hi=>h5 i (zI hi)⟩
instance (f:Form) (d:wg) (s:zo) (v:Lf.Rat):Sp (Ug f d s v) (FW 8200 f/\Dw d/\rg v/\rl v<=1700) (λr=>(r.2.2=0->Dx f r.1)/\r.2.1.length<=1):=⟨λ⟨hF,hD,hv⟩=>by
 unfold Ug
 refine za hF.2.2.2.1.1 λi hi=>za ⟨hF,hD⟩ λy hy=>zf (λ_=>ze ⟨nz (a:=1) (qj),Y _⟩) λe=>zf (λ_=>ze ⟨nz (a:=5) (qj),Y _⟩) λe2=>za hv λz _=>zf (λ_=>ze ⟨nz (a:=8) (qj),zG _⟩) λ_=>za ⟨hF,hD⟩ λw hw => ?_
 have i0:=hZ e2
 rcases w with⟨k,a,b,c,e⟩ | ⟨n,m⟩
 ·obtain⟨rfl,rfl,⟨b1,b2,b3,b4⟩,hV,f1,f2,l1,l2,l3,l4,l5,l6,l7⟩:=hw
  have i1:i<a.2.2.2.1.length:=hi.2
  have i2:0<=i:=Z
  have g1:a.2.2.2.1.length<=10000:=Z
  have g2:a.2.2.2.2.1.length<=10000:=Z
  refine wk rfl (mR (za ⟨hv,⟨b1,Z⟩,Z,Z,i2,i1,g1,g2,b4⟩ λ⟨a',p,q,r⟩ hr=>z8 (z8 (z8 ?_))))
  obtain⟨⟨r1,r2⟩,r3,⟨r4,r5⟩,r6⟩:=hr
  dsimp only at r1 r2 r3 r4 r5 r6
  subst r6
  rw[db,db,db]
  refine za ⟨⟨r1,by show q.length=p.length; omega,by show r.length=p.length; omega,r5⟩,hD.2.2.1,g2,g1⟩ λ⟨A,hl,u,y⟩ hp => ?_
  dsimp only
  refine zf (λe=>ze ⟨nz (by simpa using e),hp.2⟩) λe => ?_
  obtain⟨p1,p2,p3,p4,p5,-⟩:=hp.1 (by simpa using e)
  dsimp only at p1 p2 p3 p4 p5
  have q1:y.2.1.length=b.length+1:=by rw[p5]; exact r2
  have q2:=p3.2.1
  have q3:=p3.2.2.1
  have q4:ql ((y.2.1.length:Int)-1)=b.length:=by rw[q1]; exact(qv (Z) (Z)).trans (Z)
  rw[q4]
  refine qq ⟨Z,Z⟩ (zf (λ_=>ze ⟨nz (a:=11) (qj),zG _⟩) λ_=>zj ⟨Z,Z,Z⟩ (zj ⟨Z,Z,Z⟩ (zj ⟨Z,Z,Z⟩ (za ⟨z6i y p3 b.length,p1,by show y.1.2.2.2.2.1.length<=_; rw[p4]; exact g2,by show y.1.2.2.2.1.length<=_; rw[p4]; exact g1⟩ λ⟨C,D,v,κ'⟩ hq => ?_))))
  refine zf (λe=>ze ⟨nz (by simpa using e),hq.2⟩) λe => ?_
  obtain⟨s1,s2,s3,s4,-,s5,-⟩:=hq.1 (by simpa using e)
  dsimp only at s1 s2 s3 s4 s5
  rw[p4]at s4
  refine za ⟨hD,⟨s3,s5⟩,by rw[s4]; exact l2,by rw[s4]; exact l3⟩ λ_ hr => ?_
  obtain⟨o,ps,rfl,B0,t1,t2,t3⟩:=hr
  refine qq ⟨i2,by show i<d.2.2.2.2.2.1.length; omega⟩ (zj ⟨rfl,by show 0+i.toNat<d.2.2.2.2.2.1.length; omega⟩ (z8 (z8 (z8 (z8 (z8 (ze ⟨λ_ => ?_,Y _⟩)))))))
  rw[db,db,db,db]
  have hs:(zH 0 (I (0+d.2.2.2.2.2.1.length) (List.set d.2.2.2.2.2.1 (0+i.toNat) true))).length=d.2.2.2.2.2.1.length:=qu
  have n4:=hD.2.2.2.1
  have n6:=hD.2.2.2.2.2.1
  exact⟨⟨hD.1,hD.2.1,s1,by show o.length<=_; omega,t2,by show(zH 0 (I (0+d.2.2.2.2.2.1.length) (List.set d.2.2.2.2.2.1 (0+i.toNat) true))).length<=_; omega,B0⟩,hV,f1,f2,by show C.length=_; omega,by show o.length=_; omega,by show ps.length=_; omega,hs.trans l4,l5,l6⟩
 ·have hw:m≠0/\n.length<=1:=hw
  exact vy (by simpa using hw.1) (ze ⟨nz hw.1,hw.2⟩)⟩
open T PL
theorem z4C{α A hl C D κ' F:Type}{a:List A}{b:List hl}{c:List C}{d:List D}{e:List κ'}{f:List F}{t:T α}{Q:α->Prop}(k:t.wp Q):(oW a b c d e f t).wp Q :=
 z8 (z8 (z8 (z8 (z8 (z8 k)))))
instance (f:Form) (d:wg) (s:zo) (x:Bool):Sp (ZU f d s x) (FW 8200 f/\Dw d) (λr=>(r.2.2=0->Dx f r.1)/\r.2.1.length<=1):=⟨λ⟨hF,hD⟩=>by
 unfold ZU
 refine za hF.2.2.2.1.1 λi hi=>za ⟨hF,hD⟩ λy hy=>zf (λ_=>ze ⟨nz (a:=1) (qj),Y _⟩) λe=>zf (λ_=>ze ⟨nz (a:=5) (qj),Y _⟩) λe2 => ?_
 have i0:=hZ e2
 obtain⟨-,hV,f1,f2,l1,l2,l3,l4,l5,l6⟩:=hy (by simpa using e)
 have Jm:=hi.2
 have j1:0<=i/\i<(d.2.2.2.2.1.length:Int):=Z
 have j2:0<=i/\i<(d.2.2.1.length:Int):=Z
 refine zj (λ_=>j1) (zf (λ_=>ze ⟨nz (a:=1) (qj),Y _⟩) λ_=>zj (λ_=>j1) (zf (λ_=>ze ⟨nz (a:=12) (qj),Y _⟩) λ_=>za hD λ_ e => ?_))
 subst e
 refine za ⟨qj,qj⟩ λk hk => ?_
 have nI:rl k<=2:=hk.2
 have hv:=DK hD.2.2.1 i j2.1 j2.2
 have hD5:=hD.2.2.2.2.1
 have q1:=Cx d.2.2.2.2.1 (0+i.toNat) (false,false,(k.1,k.2.1,k.2.2.1,()),()) hD5 hk.1 (zA nI (qj))
 have q2:=Cx _ (0+i.toNat) (true,false,((nth d.2.2.1 i (zb zm)).1,(nth d.2.2.1 i (zb zm)).2.1,(nth d.2.2.1 i (zb zm)).2.2.1,()),()) q1 hv.1 hv.2
 dsimp only
 refine qq j1 (zj ⟨rfl,Z⟩ (xf (xv (P:=λz=>∃ (w:wg) (ps:List wz),z=(w,d.1,d.2.1,d.2.2.1,d.2.2.2.1,ps,d.2.2.2.2.2.1,())/\Ps ps/\ps.length=d.2.2.2.2.1.length) (zf (λ_=>qq j2 (qq j1 (zj ⟨rfl,by rw[List.length_set]; omega⟩ ?_))) λ_ => ?_) ?_)))
 ·exact z8 (z8 (z8 (z8 (zj (by rw[List.length_set,List.length_set]) (z8 (zc (zc (zc (zc (zj ⟨by rw[List.length_set,List.length_set],rfl,by rw[List.length_set,List.length_set]⟩ (zc (ze ⟨_,_,rfl,q2,by rw[List.length_set,List.length_set]⟩))))))))))))
 ·exact z8 (z8 (z8 (z8 (zj (by rw[List.length_set]) (z8 (zc (zc (zc (zc (zj ⟨by rw[List.length_set],rfl,by rw[List.length_set]⟩ (zc (ze ⟨_,_,rfl,q1,by rw[List.length_set]⟩))))))))))))
 ·rintro _ ⟨w,ps,rfl,hp,YX⟩
  dsimp only
  rw[db,db,db,db,db,db]
  refine z4C (za ⟨hF,hD.1,hD.2.1,hD.2.2.1,hD.2.2.2.1,hp,hD.2.2.2.2.2⟩ λ⟨z,A,hl,r,s,t,u,v⟩ hr=>z8 (z8 (z8 (z8 (z8 (ze ?_))))))
  rw[db,db,db,db,db]
  exact⟨λq=>(hr.1 q).1,hr.2⟩⟩
open T PL
instance (a b:List Int):Sp (jA a b) (a.length<=1000000) (λ_=>True):=⟨λh=>by
 unfold jA eK
 refine zf (λe=>ze trivial) λe => ?_
 have e:(a.length:Int)=b.length:=by simpa using e
 refine xf (xv (P:=λz=>True) ?_ λz hz => ?_)
 ·refine ug (σ:=Int) (λi=>0<=i/\i<=a.length) (λi=>(a.length-i).toNat) ⟨Z,Z⟩ λi hi => ?_
  unfold gG
  refine zf (λV => ?_) λV=>ze trivial
  have V:=uY V
  have hw:ql (i+1)=i+1:=qv (Z) (Z)
  refine qq ⟨hi.1,V⟩ (qq ⟨hi.1,Z⟩ (zf (λk=>ze trivial) λk=>ze ?_))
  rw[hw]; exact⟨⟨Z,Z⟩,Z⟩
 ·rcases z with z | z<;>exact ze trivial⟩
theorem TC{a:Lf.Rat}:a.2.1.length<=rl a/\a.2.2.1.length<=rl a:=by unfold rl; omega
instance (a b:Lf.Rat):Sp (XI a b) (rg a/\rg b/\rl a<=20700/\rl b<=20700) (λ_=>True):=⟨λ⟨h1,X,h3,h4⟩=>by
 unfold XI
 refine za ⟨h1,zA h3 (qj)⟩ λx U=>za ⟨X,zA h4 (qj)⟩ λy _=>zf (λ_ => ?_) λ_=>ze trivial
 have l1:=(TC (a:=x)).1
 have l2:=(TC (a:=x)).2
 have l3:=U.2.1
 exact za (Z) λc _=>zf (λ_=>za (Z) λd _=>ze trivial) λ_=>ze trivial⟩
instance (a b:vO):Sp (U5 a b) (ck a/\ck b) (λ_=>True):=⟨λ⟨ha,J⟩=>by
 have ka:=zA (EI a) ha.2.1
 have kb:=zA (EI b) J.2.1
 unfold U5
 refine zf (λ_=>za ⟨ha.1.2,J.1.2,ka,kb⟩ λc _=>zf (λ_=>xf (xv (P:=λ_=>True) ?_ λ_ _=>ze trivial)) λ_=>ze trivial) λ_=>ze trivial
 unfold jz yP
 refine zf (λe=>ze trivial) λe => ?_
 have e:(a.2.1.length:Int)=b.2.1.length:=by simpa using e
 have n1:=ha.2.2
 refine xf (xv (P:=λz=>True) ?_ λz hz => ?_)
 ·refine ug (σ:=Int) (λi=>0<=i/\i<=a.2.1.length) (λi=>(a.2.1.length-i).toNat) ⟨Z,Z⟩ λi hi => ?_
  unfold uZ
  refine zf (λV => ?_) λV=>ze trivial
  have V:=uY V
  have hw:ql (i+1)=i+1:=qv (Z) (Z)
  have m1:nth a.2.1 i (zb qk)∈a.2.1:=xo hi.1 V
  have m2:nth b.2.1 i (zb qk)∈b.2.1:=xo hi.1 (Z)
  have c1:tb a.2.1<=cb a:=by unfold cb; omega
  have c2:tb b.2.1<=cb b:=by unfold cb; omega
  have r1:=zA (zA (XU m1) c1) ha.2.1
  have r2:=zA (zA (XU m2) c2) J.2.1
  refine qq ⟨hi.1,V⟩ (qq ⟨hi.1,Z⟩ (xf (xv (P:=λ_=>True) ?_ λd _=>zf (λk=>ze trivial) λk=>ze ?_)))
  ·unfold nt
   exact zf (λ_=>za ⟨ha.1.1 _ m1,J.1.1 _ m2,r1,r2⟩ λc _=>ze trivial) λ_=>ze trivial
  ·rw[hw]; exact⟨⟨Z,Z⟩,Z⟩
 ·rcases z with z | z<;>exact ze trivial⟩
open T PL
abbrev X5:=List Lf.Rat×List Bool×List Lf.Rat×List wz×List Bool×Unit
abbrev xd(x:X5)(a:List Int):wg:=(x.1,x.2.1,x.2.2.1,a,x.2.2.2.1,x.2.2.2.2.1,())
instance (f:Form) (d:X5) (rw:List Int):Sp (eT f d rw) (FW 8200 f/\Dw (xd d rw)) (λr=>match r with | .inl (k,y,a,b,c,e)=>k=0/\y=rw/\a=f/\Bt f b c e | .inr (n,k,_)=>k≠0/\n.length<=1):=⟨λ⟨hF,hD⟩=>by
 unfold eT
 rw[db]
 refine z8 (za trivial λo ho=>zf (λ_=>z8 (ze ⟨qj,Y _⟩)) λe => ?_)
 have ho:d.2.2.1.length=f.2.2.2.1.length/\rw.length=f.2.2.2.2.1.length/\d.2.2.2.1.length=f.2.2.2.1.length/\d.2.2.2.2.1.length=f.2.2.2.1.length:=ho (by simpa using e)
 have hPn:Ps d.2.2.2.1:=hD.2.2.2.2.1
 refine za ⟨hF,hD.1,hD.2.1⟩ λ⟨p,n,k,g,b⟩ hz=>zf (λe=>z8 (ze ⟨by simpa using(zF.1 e).1,zG _⟩)) λ_=>zf (λe=>z8 (ze ⟨by simpa using e,Y _⟩)) λe => ?_
 obtain⟨hg,J,hgb,zcM,hz⟩:=hz
 obtain⟨hV,h1,X,h3,h4⟩:=hz (by simpa using e)
 dsimp only at hg J hgb zcM
 refine zc (z8 (zc (z8 (z8 (zc (zj ⟨rfl,rfl,rfl⟩ (zc (zj rfl (xf (xv (P:=λz=>∃ c:List Int,z=(rw,d,g,b,(),f,c)/\c.length=b.length) ?_ ?_))))))))))
 ·unfold Zb
  refine ug (λz:Int×List Int×X5×List vO×List Int×Unit×Form×List Int=>∃ (i:Int) (c:List Int),z=(i,rw,d,g,b,(),f,c)/\0<=i/\i<=b.length/\(c.length:Int)=i) (λz:Int×List Int×X5×List vO×List Int×Unit×Form×List Int=>((b.length:Int)-z.1).toNat) ⟨0,[],rfl,qj,Z,rfl⟩ ?_
  rintro _ ⟨i,c,rfl,i0,i1,hc⟩
  unfold mw
  refine zf (λV => ?_) λV => ?_
  ·have V:=uY V
   have hn:=Dg _ _ (0+i.toNat) J (Z)
   have hw:ql (i+1)=i+1:=qv (Z) (Z)
   have KP:wo b (0+i.toNat) (zb (.int .i64))<rw.length:=by have:=hn.2; have:=ho.2.1; omega
   refine qq ⟨i0,V⟩ (zj ⟨rfl,Z⟩ (qq ⟨hn.1,KP⟩ (zj ⟨rfl,Z⟩ (vX (Z) (zc (z8 (zc (z8 (z8 (zc (zj (cu1 _ _) (zc (zj (KU _ _).symm (ze ?_))))))))))))))
   rw[hw]
   exact⟨⟨i+1,_,rfl,Z,Z,by rw[KU]; omega⟩,by simp only; omega⟩
  ·have V:=hZ V
   exact z8 (zc (z8 (z8 (zc (zc (zc (z8 (ze ⟨c,rfl,Z⟩))))))))
 ·rintro _ ⟨c,rfl,hc⟩
  refine z8 (zc (z8 (z8 (zc (zc (zc (z8 (xf (xv (P:=λz=>∃ (x:List vO) (y q:List Int),z=(rw,d,x,y,(),f,q)/\Bt f x q y) ?_ ?_)))))))))
  ·unfold Zc
   have hP3:=ho.2.2.1
   refine ug (λz:Int×List Int×X5×List vO×List Int×Unit×Form×List Int=>∃ (i:Int) (x:List vO) (y q:List Int),z=(i,rw,d,x,y,(),f,q)/\0<=i/\i<=d.2.2.2.1.length/\Bt f x q y/\(x.length:Int)<=64+i) (λz:Int×List Int×X5×List vO×List Int×Unit×Form×List Int=>((d.2.2.2.1.length:Int)-z.1).toNat) ⟨0,_,_,_,rfl,qj,Z,⟨hg,Z,Z,zb3 _ _ _ J (Z)⟩,Z⟩ ?_
   rintro _ ⟨i,x,y,c,rfl,i0,i1,hB,U⟩
   obtain⟨b1,b2,b3,b4⟩:=hB
   unfold my
   refine zf (λV => ?_) λV => ?_
   ·have V:=uY V
    have hp:=L5 d.2.2.2.1 i hPn i0 V
    have hw:ql (i+1)=i+1:=qv (Z) (Z)
    refine qq ⟨i0,V⟩ (zf (λ_=>z8 (zc (z8 (z8 (zc (zc (zc (z8 (ze ?_))))))))) λ_ => ?_)
    ·rw[hw]
     exact⟨⟨i+1,_,_,_,rfl,Z,Z,⟨b1,b2,b3,b4⟩,Z⟩,by simp only; omega⟩
    ·have q1:i<f.2.2.2.1.length:=Z
     have q2:f.2.2.2.1.length<=10000:=Z
     have q3:f.2.2.2.2.1.length<=10000:=Z
     refine mR (za ⟨hp,⟨b1,Z⟩,Z,Z,i0,q1,q2,q3,b4⟩ λ⟨e,p,q,r⟩ hr=>z8 (zc (z8 (z8 (zc (zc (zc (z8 (ze ?_)))))))))
     obtain⟨⟨r1,r2⟩,r3,⟨r4,r5⟩,r6⟩:=hr
     dsimp only at r1 r2 r3 r4 r5 r6
     subst r6
     rw[hw]
     exact⟨⟨i+1,p,r,q,rfl,Z,Z,⟨r1,Z,Z,r5⟩,Z⟩,by simp only; omega⟩
   ·exact z8 (zc (z8 (z8 (zc (zc (zc (z8 (ze ⟨x,y,c,rfl,b1,b2,b3,b4⟩))))))))
  ·rintro _ ⟨x,y,q,rfl,hB⟩
   exact z8 (mR (ze ⟨rfl,rfl,rfl,hB⟩))⟩
open T PL
instance (b:List Int) (c:Int):Sp (uM b c) (b.length<=1000000) (λr=>r<b.length):=⟨λh=>by
 unfold uM yH
 refine xf (xv (P:=λz:Unit⊕Int=>z.elim (λ_=>True) λr:Int=>r<(b.length:Int)) ?_ λz hz => ?_)
 ·refine ug (σ:=Int) (λi=>0<=i/\i<=b.length) (λi=>(b.length-i).toNat) ⟨Z,Z⟩ λi hi => ?_
  unfold yI
  refine zf (λV => ?_) λV=>ze trivial
  have V:=uY V
  have hw:ql (i+1)=i+1:=qv (Z) (Z)
  refine qq ⟨hi.1,V⟩ (zf (λk=>ze V) λk=>ze ?_)
  rw[hw]; exact⟨⟨Z,Z⟩,Z⟩
 ·rcases z with z | z
  ·exact ze (by show(-1:Int)<_; omega)
  ·exact ze hz⟩
abbrev Z12:=Int×List Int×X5×wg×Form×List vO×List Int×List Int×Form×List vO×List Int×List Int
theorem zab{α A:Type}{f:List A}{a b:List vO}{g c h d:List Int}{t:T α}{Q:α->Prop}(k:t.wp Q):(R f (oC f (oC a (oC g (oC c (R a (R g (R c (oC b (oC h (oC d (R b (R h (R d t)))))))))))))).wp Q :=
 z8 (zc (mR (mR k)))
instance (f:Form) (d:wg) (u:Unit) (a1:List Lf.Rat) (a2:List Bool) (a3:List Lf.Rat) (a4:List Int) (a5:List wz) (a6:List Bool):Sp (iI f d u a1 a2 a3 a4 a5 a6) (FW 8200 f/\Dw d/\Dw (a1,a2,a3,a4,a5,a6,())) (λr=>(r.2.2.1=0->Dx f (D8 r))/\r.2.1.length<=1):=⟨λ⟨hF,hD,hE⟩=>by
 unfold iI
 rw[db,db,db,db,db]
 dsimp only
 refine za ⟨hF,hD⟩ λz hz => ?_
 have hE':Dw (xd (a1,a2,a3,a5,a6,()) a4):=hE
 rcases z with⟨k,a,b,c,e⟩ | ⟨n,m⟩
 ·obtain⟨rfl,rfl,⟨b1,b2,b3,b4⟩,-⟩:=hz
  refine wk rfl (z8 (z8 (z8 (z8 (z8 (zc (z8 (za ⟨hF,hE'⟩ λw hw => ?_))))))))
  rcases w with⟨k,y,v,b',c',e'⟩ | ⟨n,m,x⟩
  ·obtain⟨rfl,rfl,rfl,⟨d1,d2,d3,d4⟩⟩:=hw
   have n1:=b1.1
   have n2:=d1.1
   have n4:y.length<=1000000000:=hE.2.2.2.1
   refine wk rfl (z8 (zj ⟨rfl,rfl,rfl⟩ (mR (mR (xf (xv (P:=λz=>∃ (o:List Int) (w:wg),z=(o,(a1,a2,a3,a5,a6,()),w,v,b,c,e,v,b',c',e')/\ou o/\o.length=y.length) ?_ ?_))))))
   ·unfold QH
    refine ug (λz:Z12=>∃ (i:Int) (o:List Int) (w:wg),z=(i,o,(a1,a2,a3,a5,a6,()),w,v,b,c,e,v,b',c',e')/\(ou o/\o.length=y.length)/\0<=i/\i<=y.length) (λz:Z12=>((y.length:Int)-z.1).toNat) ⟨0,_,_,rfl,⟨hE.2.2.2.2.2.2,rfl⟩,qj,Z⟩ ?_
    rintro _ ⟨i,o,w,rfl,⟨hoo,ho⟩,i0,i1⟩
    unfold oi
    dsimp only
    refine zf (λV=>z8 ?_) λV=>zab (ze ⟨o,w,rfl,hoo,ho⟩)
    have V:=uY V
    have hw:ql (i+1)=i+1:=qv (Z) (Z)
    rw[db]
    refine za (Z) λv1 hv1=>z8 ?_
    rw[db]
    refine za (Z) λv2 Hn=>xf (xv (P:=λz=>∃ q:Bool,z=(q,o,(a1,a2,a3,a5,a6,()),w,v,b,c,e,v,b',c',e')) (zf (λ_=>zab (ze ⟨_,rfl⟩)) λg1=>zf (λ_=>zab (ze ⟨_,rfl⟩)) λg2 => ?_) ?_)
    ·have g1:=hZ g1
     have g2:=hZ g2
     refine qq ⟨Z,Z⟩ (zj ⟨rfl,Z⟩ (qq ⟨Z,Z⟩ (zj ⟨rfl,Z⟩ (za ⟨b1.2 _ (Mh (Z)),d1.2 _ (Mh (Z))⟩ λq _=>zab (ze ⟨_,rfl⟩)))))
    ·rintro _ ⟨q,rfl⟩
     dsimp only
     refine zf (λ_=>qq ⟨i0,Z⟩ (zj ⟨rfl,Z⟩ (zj (by rw[List.length_set]) (zj ⟨by rw[List.length_set],rfl,by rw[List.length_set]⟩ (mR (mR (ze ?_))))))) λ_=>z8 (zc (mR (mR (ze ?_))))
     ·rw[hw]
      exact⟨⟨i+1,_,w,rfl,⟨MB hoo _ (qj),by rw[List.length_set]; exact ho⟩,Z,Z⟩,by simp only; omega⟩
     ·rw[hw]
      exact⟨⟨i+1,o,w,rfl,⟨hoo,ho⟩,Z,Z⟩,by simp only; omega⟩
   ·rintro _ ⟨o,w,rfl,hoo,ho⟩
    dsimp only
    rw[db]
    exact z8 (za ⟨hF,hE.1,hE.2.1,hE.2.2.1,by show o.length<=_; omega,hE.2.2.2.2.1,hE.2.2.2.2.2.1,hoo⟩ λr hr=>zeI (ze ⟨λq=>(hr.1 q).1,hr.2⟩))
  ·have hw:m≠0/\n.length<=1:=hw
   exact vy (by simpa using hw.1) (zaa (ze ⟨nz hw.1,hw.2⟩))
 ·have hz:m≠0/\n.length<=1:=hz
  exact vy (by simpa using hz.1) (zaa (ze ⟨nz hz.1,hz.2⟩))⟩
instance (a:Param) (s:zo):Sp (gM a s) True (λ_=>True):=⟨λ_=>by unfold gM; exact ze trivial⟩
instance (a:Switch) (s:zo):Sp (yR a s) True (λ_=>True):=⟨λ_=>by unfold yR; exact ze trivial⟩
theorem D8e{z:List Lf.Rat×Unit}{w:List zo}{x:Int}{h:List Lf.Rat}{i:List Bool}{j:List Int}{k:List wz}{l:List Bool}{Q:wg×List zo×Int->Prop}(hr:Q ((h,i,z.1,j,k,l,()),w,x)):(R h (R i (R j (R k (R l (T.ret ((zH 0 (I (0+h.length) h),zH 0 (I (0+i.length) i),z.1,zH 0 (I (0+j.length) j),zH 0 (I (0+k.length) k),zH 0 (I (0+l.length) l),()),w,x))))))).wp Q:=by
 rw[db,db,db,db,db]
 exact z8 (z8 (z8 (z8 (z8 (ze hr)))))
instance (f:Form) (d:wg) (s:zo) (v:Lf.Rat):Sp (pe f d s v) (FW 8200 f/\Dw d/\rg v/\rl v<=1700) (λr=>(r.2.2=0->Dx f r.1)/\r.2.1.length<=1):=⟨λ⟨hF,hD,hv⟩=>by
 unfold pe
 refine za ⟨by have:=hF.2.1.1; omega,λ_ _=>trivial⟩ λi hi=>za ⟨hF,hD⟩ λy hy=>zf (λ_=>ze ⟨nz (a:=1) (qj),Y _⟩) λe=>zf (λ_=>ze ⟨nz (a:=5) (qj),Y _⟩) λe2=>za hv λz _=>zf (λ_=>ze ⟨nz (a:=8) (qj),zG _⟩) λ_=>za hD λ_ e3=>za ⟨hv.1,zA hv.2 (qj)⟩ λn hn => ?_
 subst e3
 have i0:=hZ e2
 obtain⟨-,hV,f1,f2,l1,l2,l3,l4,l5,l6⟩:=hy (by simpa using e)
 have Jm:i<f.2.1.length:=by rcases hi with⟨h,_⟩ | ⟨_,h,_⟩<;>omega
 have D4:=hn.2.1
 have j1:0<=i/\i<(d.1.length:Int):=Z
 have hs:=DL d.1 (0+i.toNat) n hD.1 hn.1 (Z)
 dsimp only
 exact qq j1 (zj ⟨rfl,Z⟩ (zj ⟨by rw[List.length_set],rfl,by rw[List.length_set]⟩ (zc (zc (zc (zc (zc (zj (by rw[List.length_set]) (z8 (z8 (z8 (z8 (z8 (za ⟨hF,hD,hs,hD.2⟩ λ⟨z,w,x,h,i,j,k,l⟩ hr=>D8e hr))))))))))))))⟩
instance (f:Form) (d:wg) (s:zo) (v:Bool):Sp (mZ f d s v) (FW 8200 f/\Dw d) (λr=>(r.2.2=0->Dx f r.1)/\r.2.1.length<=1):=⟨λ⟨hF,hD⟩=>by
 unfold mZ
 refine za ⟨by have:=hF.1.1; omega,λ_ _=>trivial⟩ λi hi=>za ⟨hF,hD⟩ λy hy=>zf (λ_=>ze ⟨nz (a:=1) (qj),Y _⟩) λe=>zf (λ_=>ze ⟨nz (a:=5) (qj),Y _⟩) λe2=>za hD λ_ e3 => ?_
 subst e3
 have i0:=hZ e2
 obtain⟨-,hV,f1,f2,l1,l2,l3,l4,l5,l6⟩:=hy (by simpa using e)
 have Jm:i<f.1.length:=by rcases hi with⟨h,_⟩ | ⟨_,h,_⟩<;>omega
 have j1:0<=i/\i<(d.2.1.length:Int):=Z
 dsimp only
 exact qq j1 (zj ⟨rfl,Z⟩ (zc (zj ⟨by rw[List.length_set],rfl,by rw[List.length_set]⟩ (zc (zc (zc (zc (z8 (zj (by rw[List.length_set]) (z8 (z8 (z8 (z8 (za ⟨hF,hD,hD.1,by show(List.set d.2.1 _ v).length<=_; rw[List.length_set]; exact hD.2.1,hD.2.2⟩ λ⟨z,w,x,h,i,j,k,l⟩ hr=>D8e hr))))))))))))))⟩
open T PL
def Vn{α:Type}(p:α->Bool)(i:Int):List α->Int
 | [] => -1
 | x::r=>if p x=true then i else Vn p (i+1) r
theorem zd9{α:Type}(p:α->Bool)(l:List α)(i:Int)(h:0<=i):Vn p i l = -1\/(i<=Vn p i l/\Vn p i l<i+l.length):=by
 induction l generalizing i with
 | nil=>exact .inl rfl
 | cons x r ih =>
  simp only[Vn]
  grind
theorem KQ(l:List Switch)(g:Switch->T Bool)(p:Switch->Bool)(hg:∀ x,(g x).run=some (p x))(B:(l.length:Int)<=4611686018427387904):(xm l g).run=some (Vn p 0 l):=by
 have key:(kQ l g (l.length:Int) 0).run=some (if Vn p 0 l = -1 then .inl ()else .inr (Vn p 0 l)):=by
  have:=sd (r:=xp l g (l.length:Int)) (λi=>0<=i) (λi=>((l.length:Int)-i).toNat) (λi=>if Vn p i (l.drop i.toNat) = -1 then .inl ()else .inr (Vn p i (l.drop i.toNat))) (λi h => ?_) (s:=0) (W 0)
  ·unfold kQ; simpa using this
  ·by_cases hi:i<l.length
   ·rw[YP l (zb qe) h hi]
    by_cases hp:p (nth l i (zb qe))=true
    ·right
     have:¬ i = -1:=Z
     simp(disch:=omega) [xp,hi,hg,hp,Vn,this]
    ·left
     refine⟨i+1,?_,Z,Z,?_⟩
     ·simp(disch:=omega) [xp,hi,hg,hp]
     ·simp[Vn,hp]
   ·right
    rw[EX _ hi]
    simp[xp,hi,Vn]
 simp only[xm,T.run_bind,key]
 split<;>rename_i h<;>simp[h]
def QV(w:List Switch)(on:List Bool)(p:cv):Bool:=xw p.2.1 []||(decide (0<=Vn (λs=>xw s.1 p.2.1) 0 w)&&(decide (Vn (λs=>xw s.1 p.2.1) 0 w<(on.length:Int))&&nth on (Vn (λs=>xw s.1 p.2.1) 0 w) false))
theorem DI(f:Form)(on:List Bool)(hp:(f.2.2.1.length:Int)<=1000000000000)(hw:(f.1.length:Int)<=4611686018427387904):(jr f on).run=some (f.2.2.1.map (QV f.1 on)):=by
 have key:(Zs on f f.2.2.1 (f.2.2.1.length:Int) (0,[])).run=some (f.2.2.1.map (QV f.1 on)):=by
  refine BF f.2.2.1 (zb xi) (λb i=>(i,b)) (λb r=>(b.length:Int)+r.length<=1000000000000) (λr b=>b++r.map (QV f.1 on)) ?_ ?_ (wa)
  ·intro b x xs i h0 hi U J
   simp at J
   refine .inl ⟨b++[QV f.1 on x],?_,wa,qu⟩
   have hI:=KQ f.1 (λz0=>ku z0 x) (λs=>xw s.1 x.2.1) (λ_=>rfl) hw
   have V:zb .bool=false:=rfl
   by_cases c1:xw x.2.1 []=true
   ·simp(disch:=omega) [kt,hi,U,hI,QV,c1]
   ·by_cases c2:0<=Vn (λs=>xw s.1 x.2.1) 0 f.1
    ·by_cases c3:Vn (λs=>xw s.1 x.2.1) 0 f.1<(on.length:Int)
     ·simp(disch:=omega) [kt,hi,U,hI,QV,c1,c2,c3,V]
     ·simp(disch:=omega) [kt,hi,U,hI,QV,c1,c2,c3]
    ·simp(disch:=omega) [kt,hi,U,hI,QV,c1,c2]
  ·intro b _
   simp[kt]
 simp[jr,key]
def QU(f:Form)(on:List Bool):List Bool:=f.2.2.1.map (QV f.1 on)
theorem XK(f:Form)(on:List Bool):(QU f on).length=f.2.2.1.length:=List.length_map _
theorem z7x{w v:List Switch}(h:w.map (·.1)=v.map (·.1))(n:zo):∀ i:Int,Vn (λs:Switch=>xw s.1 n) i w=Vn (λs:Switch=>xw s.1 n) i v:=by
 induction w generalizing v with
 | nil=>intro i; rw[List.map_eq_nil_iff.1 h.symm]
 | cons x w ih =>
  intro i
  cases v with
  | nil=>cases h
  | cons y v =>
   obtain⟨h1,X⟩:=List.cons.inj h
   have h1:x.1=y.1:=h1
   simp only[Vn,h1,ih X]
theorem z9Q{f g:Form}(h:f.1.map (·.1)=g.1.map (·.1))(k:f.2.2.1.map WR=g.2.2.1.map WR)(on:List Bool):QU f on=QU g on:=by
 have e:∀ f:Form,QU f on=(f.2.2.1.map WR).map λp=>QV f.1 on (p.1,p.2,()):=λf=>by rw[List.map_map]; rfl
 rw[e,e,k]
 refine List.map_congr_left λp _ => ?_
 unfold QV
 simp only[z7x h]
def Gd(l:List Bool)(i:Int):Prop:=0<=i/\i<l.length/\nth l i (zb .bool)=true
def pl(i:Int):Prop:=0<=i/\i<=8200
def Pg(f:Form)(on:List Bool)(i:Int):Prop:=pl i/\(true∈QU f on->Gd (QU f on) i)
theorem En{f:Form}{on:List Bool}{i:Int}(h:f.2.2.1.length<=8200)(k:Gd (QU f on) i):Pg f on i:=⟨⟨k.1,by have:=k.2.1; rw[XK]at this; omega⟩,λ_=>k⟩
open T PL
instance (a:Switch) (s:cv):Sp (ku a s) True (λ_=>True):=⟨λ_=>by unfold ku; exact ze trivial⟩
instance (a:cv) (s:zo):Sp (eC a s) True (λ_=>True):=⟨λ_=>by unfold eC; exact ze trivial⟩
instance (f:Form) (l:List Bool):Sp (jr f l) (FW 8200 f) (λr=>r.length=f.2.2.1.length/\r=QU f l):=⟨λhF=>bB (DI f l (by have:=hF.2.2.1.1; omega) (by have:=hF.1.1; omega)) ⟨XK f l,rfl⟩⟩
theorem z0m(l:List Bool)(a:Int):∀ n:Nat,n<=l.length->((iA l a n).2=true->Gd l (iA l a n).1)/\((iA l a n).2=false->∀ j:Int,0<=j->j<n->j<a->nth l j (zb .bool)=false)
 | 0,_=>⟨nofun,λ_ j h0 h1=>Z⟩
 | n+1,h=>by
  have e:nth l (n:Int) (zb .bool)=l[n]?.getD false:=by unfold nth; rw[zJ]; rfl
  unfold iA
  split
  ·rename_i k; exact⟨λ_=>⟨by show(0:Int)<=n; omega,by show(n:Int)<_; omega,e.trans k.1⟩,nofun⟩
  ·rename_i k
   have:=z0m l a n (Z)
   refine⟨this.1,λq j h0 h1 X => ?_⟩
   by_cases c:j=n
   ·subst c; rw[e]; simpa[X]using k
   ·exact this.2 q j h0 (Z) X
instance (f:Form) (l:List Bool) (a:Int):Sp (pU f l a) (FW 8200 f) (λr=>(r.2=true->Gd (QU f l) r.1)/\(r.2=false->∀ j:Int,0<=j->j<(QU f l).length->j<a->nth (QU f l) j (zb .bool)=false)):=⟨λhF=>by
 have n2:=hF.2.2.1.1
 have n3:=XK f l
 unfold pU
 refine za hF ?_
 rintro _ ⟨-,rfl⟩
 exact zj (Z) (ze (z0m _ a _ (zG _)))⟩
instance (f:Form) (l:List Bool) (a:Int):Sp (pV f l a) (FW 8200 f) (λr=>(r.2=true->Gd (QU f l) r.1)/\(r.2=false->∀ j:Int,0<=j->j<(QU f l).length->a<j->nth (QU f l) j (zb .bool)=false)):=⟨λhF=>by
 have n2:=hF.2.2.1.1
 have n3:=XK f l
 unfold pV UZ
 refine za hF ?_
 rintro _ ⟨-,rfl⟩
 generalize QU f l=L at *
 refine xf (xv (P:=λz:Unit⊕(Int×Bool)=>z.elim (λ_=>∀ j:Int,0<=j->j<L.length->a<j->nth L j (zb .bool)=false) λr=>r.2=true/\Gd L r.1) ?_ λz hz => ?_)
 ·refine ug (σ:=Int) (λi=>0<=i/\i<=L.length/\∀ j:Int,0<=j->j<i->a<j->nth L j (zb .bool)=false) (λi=>(L.length-i).toNat) ⟨Z,Z,λj h0 h1=>Z⟩ λi hi => ?_
  unfold Qj
  refine zf (λV => ?_) λV=>ze λj h0 h1 X=>hi.2.2 j h0 (by have:=hZ V; omega) X
  have V:=uY V
  have hw:ql (i+1)=i+1:=qv (Z) (Z)
  refine qq ⟨hi.1,V⟩ (zf (λk=>ze ⟨rfl,hi.1,V,(zF.1 k).1⟩) λk=>ze ?_)
  rw[hw]
  refine⟨⟨Z,Z,λj h0 h1 X => ?_⟩,Z⟩
  by_cases c:j=i
  ·subst c; simpa[X]using k
  ·exact hi.2.2 j h0 (Z) X
 ·rcases z with z | z
  ·exact ze ⟨nofun,λ_=>hz⟩
  ·exact ze ⟨λ_=>hz.2,λq=>by rw[hz.1]at q; cases q⟩⟩
instance (f:Form) (l:List Bool) (a:Int):Sp (Zr f l a) (FW 8200 f/\pl a) (λr=>Pg f l r):=⟨λ⟨hF,ha⟩=>by
 have n2:=hF.2.2.1.1
 unfold Zr
 refine za hF ?_
 rintro _ ⟨-,rfl⟩
 refine zj (λh0 h1=>⟨uY h0,uY h1⟩) (zf (λc=>ze (En n2 ?_)) λc=>za hF λx U=>zf (λq=>ze (En n2 (U.1 q))) λq=>za hF λy hy=>zf (λq=>ze (En n2 (hy.1 q))) λq2=>ze ⟨⟨qj,qj⟩,λk => ?_⟩)
 ·simp only[zK,decide_eq_true_eq]at c
  exact⟨c.1,c.2.1,c.2.2⟩
 ·exfalso
  obtain⟨j,h0,h1,X⟩:=UG (d:=zb .bool) k
  rcases Int.lt_trichotomy j a with h | h | h
  ·have:=U.2 q j h0 h1 h; rw[X]at this; cases this
  ·subst h
   rw[decide_eq_true h0,decide_eq_true h1,X]at c
   cases c
  ·have:=hy.2 q2 j h0 h1 h; rw[X]at this; cases this⟩
instance (f:Form) (l:List Bool) (s:zo):Sp (Wr f l s) (FW 8200 f) (λr=>r.2=0->Pg f l r.1):=⟨λhF=>by
 have n2:=hF.2.2.1.1
 have n3:=XK f l
 unfold Wr
 refine za ⟨Z,λ_ _=>trivial⟩ λi hi=>zf (λ_=>ze (nz (a:=5) (qj))) λh0=>za hF ?_
 rintro _ ⟨-,rfl⟩
 have h0:=hZ h0
 have h1:i<f.2.2.1.length:=by rcases hi with⟨h,_⟩ | ⟨_,h,_⟩<;>omega
 exact qq ⟨Z,Z⟩ (zf (λ_=>ze (nz (a:=12) (qj))) λc=>ze λ_=>En n2 ⟨by show 0<=i; omega,by show i<_; omega,by simpa using c⟩)⟩
def sL(l:List zo):Prop:=∀ s∈l,s.length<=1000000000
def Hw(h:dT):Prop:=h.1.length+h.2.1.length<=32/\sL h.1/\sL h.2.1
instance (l:List zo):Sp (wU l) (l.length<=1000) (λr=>r=l):=⟨λh=>by
 unfold wU
 refine zj (λe r h => ?_) (zj ⟨rfl,rfl,rfl,Z⟩ (uH (Z) (ze rfl)))
 subst e
 exact⟨⟨rfl,rfl,rfl⟩,rfl,h.2.2.2⟩⟩
instance (l:List zo):Sp (wT l) (l.length<=1000) (λr=>r=l):=⟨λh=>by
 unfold wT
 dsimp only
 refine zj (λe r h => ?_) (zj ⟨rfl,rfl,rfl,Z⟩ (zj rfl (ze (by rw[Nat.zero_add]; exact db l))))
 subst e
 exact h.2.2⟩
instance (h:dT) (s:zo):Sp (Wf h s) (Hw h/\s.length<=1000000000) (λr=>Hw r/\r.1.length=min 32 (h.1.length+1)/\r.2.1.length=0):=⟨λ⟨⟨h1,X,h3⟩,hs⟩=>by
 unfold Wf
 refine za (Z) λc hc => ?_
 subst hc
 dsimp only
 have B:∀ n:Nat,n<=33->∃ k:Nat,lU 0 (ql ((n:Int)-32))=k/\k<=n/\n-k=min 32 n:=λn hn=>by
  rw[qv (Z) (Z)]
  unfold lU
  split
  ·exact⟨n-32,Z,Z,Z⟩
  ·exact⟨0,Z,Z,Z⟩
 obtain⟨k,k1,k2,k3⟩:=B (h.1.length+1) (Z)
 rw[k1]
 refine vX (Z) (zj ⟨Z,Z,Z⟩ (zj rfl (ze ⟨⟨?_,λx U => ?_,nofun⟩,?_,rfl⟩)))
 ·show(zH _ (I _ _)).length+0<=32
  rw[zL,zE]
  omega
 ·rcases List.mem_append.1 (zI (zP U))with q | q
  ·exact X x q
  ·rw[List.mem_singleton.1 q]; exact hs
 ·show(zH _ (I _ _)).length=_
  rw[zL,zE,KU]
  omega⟩
instance (b f:List zo) (s:zo):Sp (Zj b f s) (1<=b.length/\b.length+f.length<=32/\sL b/\sL f/\s.length<=1000000000) (λr=>r.1.length+1=b.length/\r.2.1.length=f.length+1/\sL r.1/\sL r.2.1/\r.2.2.length<=1000000000):=⟨λ⟨h0,h1,X,h3,h4⟩=>by
 have hw:ql ((b.length:Int)-1)=((b.length-1:Nat):Int):=by rw[qv (Z) (Z)]; omega
 unfold Zj
 rw[hw]
 have hc:(jS (e:=.str) 0 ((b.length-1:Nat):Int) b)=b.take (b.length-1):=rfl
 have B:(b.take (b.length-1)).length=b.length-1:=by rw[zE]; omega
 refine zj ⟨qj,Z,Z⟩ (za (by rw[hc]; omega) λx U=>za (Z) λy hy => ?_)
 subst U hy
 refine vX (Z) (qq ⟨Z,Z⟩ (z8 (zj rfl (ze ?_))))
 rw[db,hc]
 have e2:zH 0 (I (0+(y.length+1)) (y++[s]))=y++[s]:=by rw[<- KU y s]; exact db _
 rw[e2]
 refine⟨by show(b.take _).length+1=_; omega,KU _ _,λx U=>X x (zI U),jP h3 h4,X _ (xo (Z) (Z))⟩⟩
instance (h:dT) (s:zo):Sp (Zi h s) (Hw h/\s.length<=1000000000) (λr=>(Hw r.1/\r.2.1.length<=1000000000)/\(r.2.2=true->r.1.1.length+1=h.1.length/\r.1.2.1.length=h.2.1.length+1)):=⟨λ⟨⟨h1,X,h3⟩,hs⟩=>by
 unfold Zi
 refine zf (λ_=>za (Z) λx U=>za (Z) λy hy=>ze ?_) λe=>za ⟨by have:=beq_eq_false_iff_ne.1 e; omega,h1,X,h3,hs⟩ λz hz=>ze ?_
 ·subst U hy; exact⟨⟨⟨h1,X,h3⟩,Y _⟩,nofun⟩
 ·exact⟨⟨⟨by show z.1.length+z.2.1.length<=32; omega,hz.2.2.1,hz.2.2.2.1⟩,hz.2.2.2.2⟩,λ_=>⟨hz.1,hz.2.1⟩⟩⟩
instance (h:dT) (s:zo):Sp (Zh h s) (Hw h/\s.length<=1000000000) (λr=>(Hw r.1/\r.2.1.length<=1000000000)/\(r.2.2=true->r.1.1.length=h.1.length+1/\r.1.2.1.length+1=h.2.1.length)):=⟨λ⟨⟨h1,X,h3⟩,hs⟩=>by
 unfold Zh
 refine zf (λ_=>za (Z) λx U=>za (Z) λy hy=>ze ?_) λe=>za ⟨by have:=beq_eq_false_iff_ne.1 e; omega,Z,h3,X,hs⟩ λz hz=>ze ?_
 ·subst U hy; exact⟨⟨⟨h1,X,h3⟩,Y _⟩,nofun⟩
 ·exact⟨⟨⟨by show z.2.1.length+z.1.length<=32; omega,hz.2.2.2.1,hz.2.2.1⟩,hz.2.2.2.2⟩,λ_=>⟨hz.2.1,hz.1⟩⟩⟩
open T PL
def zmd{α:Type}(d0:α)(e:α->T zo)(d:List α)(f:Int):(zo×Int)->T ((zo×Int)⊕(zo))
 | (c,a) =>
  .ite (decide (a<f))
   (oI a d <|
    T.bind (e (nth d a d0)) λb =>
    oK ([32]:zo) b <|
    oK c (cat ([32]:zo) b) <|
    .ret (.inl ((cat c (cat ([32]:zo) b)),(ql (a+(1:Int))))))
   (.ret (.inr c))
theorem ZL(a b:zo):(cat a b).length=a.length+b.length:=List.length_append
theorem z9U{α:Type}(d0:α)(K:Nat)(e:α->T zo)(l:List α)(c:zo)(he:∀ x∈l,(e x).wp λr=>r.length<=K)(B:c.length+l.length*(K+1)<=1000000000000000)(hn:l.length<=1000000000) :
  (T.bind (T.loop (zmd d0 e l (l.length:Int)) (c,(0:Int))) λa=>oK a ([10]:zo) (.ret (cat a ([10]:zo)))).wp λr=>r.length<=c.length+l.length*(K+1)+1:=by
 refine xf (xv (P:=λz=>z.length<=c.length+l.length*(K+1)) ?_ λz hz=>vq (by show z.length+1<=_; omega) (ze (by rw[ZL]; show z.length+1<=_; omega)))
 refine ug (σ:=zo×Int) (λz=>∃ k:Nat,z.2=(k:Int)/\k<=l.length/\z.1.length<=c.length+k*(K+1)) (λz=>((l.length:Int)-z.2).toNat) ⟨0,rfl,Y _,by show c.length<=_; omega⟩ ?_
 rintro⟨s,_⟩ ⟨k,rfl,hk,hs⟩
 unfold zmd
 refine zf (λV => ?_) λV=>ze ?_
 ·have V:=uY V
  have hw:ql ((k:Int)+1)=k+1:=qv (Z) (Z)
  have h1:(k+1)*(K+1)=k*(K+1)+(K+1):=Nat.succ_mul ..
  have X:(k+1)*(K+1)<=l.length*(K+1):=Nat.mul_le_mul_right _ (Z)
  have hs:s.length<=c.length+k*(K+1):=hs
  refine qq ⟨Z,V⟩ (xf (xv (he _ (xo (Z) V)) λb J=>vq (by show 1+b.length<=_; omega) (vq (by rw[ZL]; show s.length+(1+b.length)<=_; omega) (ze ?_))))
  rw[hw]
  exact⟨⟨k+1,rfl,Z,by show(cat s (cat [32] b)).length<=_; rw[ZL,ZL]; show s.length+(1+b.length)<=_; omega⟩,by simp only; omega⟩
 ·have V:=hZ V
  have e:k=l.length:=Z
  subst e
  exact hs
instance (a:Bool):Sp (fQ a) True (λr=>r.length<=1):=⟨λ_=>by unfold fQ; exact zf (λ_=>ze (zG _)) λ_=>ze (zG _)⟩
instance (a:Int):Sp (mz a) (-1<=a/\a<1000000000000000000) (λr=>r.length<=18):=⟨λh=>by
 unfold mz
 exact zf (λ_=>ze (by show 1<=18; decide)) λe=>za ⟨by have:=hZ e; omega,h.2⟩ λb J=>ze J.1⟩
instance (p:wz):Sp (mA p) (Pn p) (λr=>r.length<=68051):=⟨λh=>by
 have X:rl p.2.2.1<=1700:=h.2
 unfold mA
 exact zf (λ_=>ze (by show 1<=68051; decide)) λ_=>zf (λ_=>za ⟨h.1,Z⟩ λb J=>vq (by show b.length+1<=_; omega) (ze (by rw[ZL]; show b.length+1<=_; omega))) λ_=>za ⟨h.1,Z⟩ λb J=>ze (by show b.length<=_; omega)⟩
instance (l:List Bool) (c:zo):Sp (iM c l λa=>fQ a) (l.length<=1000000000/\c.length<=10) (λr=>r.length<=c.length+l.length*2+1):=⟨λh =>
 z9U (zb .bool) 1 _ l c (λ_ _=>Sp.sp trivial) (Z) h.1⟩
instance (l:List Int) (c:zo):Sp (tS c l λa=>mz a) ((l.length<=1000000000/\ou l)/\c.length<=10) (λr=>r.length<=c.length+l.length*19+1):=⟨λh =>
 z9U (zb (.int .i64)) 18 _ l c (λx U=>Sp.sp (h.1.2 x U)) (Z) h.1.1⟩
instance (l:List Lf.Rat) (c:zo):Sp (nh c l λa=>gL a) (rs l/\c.length<=10) (λr=>r.length<=c.length+l.length*68051+1):=⟨λh =>
 z9U (zb zm) 68050 _ l c (λx U=>vG (s:=inferInstance) ⟨(h.1.2 x U).1,by have:=(h.1.2 x U).2; omega⟩ λr hr=>by have:=(h.1.2 x U).2; omega) (by have:=h.1.1; omega) h.1.1⟩
instance (l:List wz) (c:zo):Sp (iN c l λa=>mA a) (Ps l/\c.length<=10) (λr=>r.length<=c.length+l.length*68052+1):=⟨λh =>
 z9U (zb b9) 68051 _ l c (λx U=>Sp.sp (h.1.2 x U)) (by have:=h.1.1; omega) h.1.1⟩
instance (d:wg):Sp (fP d) (Dw d) (λr=>r.length<=68052*(d.1.length+d.2.2.1.length+d.2.2.2.2.1.length)+19*(d.2.1.length+d.2.2.2.1.length+d.2.2.2.2.2.1.length)+100):=⟨λ⟨h1,X,h3,h4,h5,h6,h7⟩=>by
 have k1:=h1.1
 have k3:=h3.1
 have k5:=h5.1
 unfold fP
 refine za ⟨h1,qj⟩ λa ha=>za ⟨X,qj⟩ λb J=>vq ?_ (za ⟨h3,qj⟩ λc hc=>vq ?_ (za ⟨⟨h4,h7⟩,qj⟩ λe he=>vq ?_ (za ⟨h5,qj⟩ λg hg=>vq ?_ (za ⟨h6,qj⟩ λk hk=>vq ?_ (vq ?_ (ze ?_))))))
 all_goals
  simp only[ZL,List.length_cons,List.length_nil]at *
  omega⟩
theorem Dx.len{f:Form}{d:wg}(h:Dx f d):68052*(d.1.length+d.2.2.1.length+d.2.2.2.2.1.length)+19*(d.2.1.length+d.2.2.2.1.length+d.2.2.2.2.2.1.length)+100<=1000000000:=by
 obtain⟨-,hV,f1,f2,l1,l2,l3,l4,l5,l6⟩:=h
 have n1:=hV.1.1.1
 have n2:=hV.1.2.1.1
 omega
open T PL
theorem JW{a b:zo}:xw a b=decide (a=b):=by unfold xw; rw[Bool.eq_iff_iff]; simp
def isD(b:UInt8):Bool:=decide (48<=b.toNat/\b.toNat<=57)
def iH(s:zo):Bool:=s.all isD
theorem NW{b:UInt8}:isD b=true↔48<=b.toNat/\b.toNat<=57:=by unfold isD; simp
theorem EV(s t:zo):iH (s++t)=(iH s&&iH t):=by unfold iH; rw[List.all_append]
theorem Wb(b:UInt8)(t:zo):iH (b::t)=(isD b&&iH t):=rfl
theorem zce{s:zo}(h:iH s=true):dgV s<10 ^ s.length:=by
 have key:∀ (s:zo) (n k:Nat),iH s=true->n<10 ^ k->s.foldl (λn b=>n*10+(b.toNat-48)) n<10 ^ (k+s.length):=by
  intro s
  induction s with
  | nil=>simp
  | cons b s ih =>
   intro n k V hn
   simp only[iH,List.all_cons,zK]at V
   have J:=NW.1 V.1
   have:=ih (n*10+(b.toNat-48)) (k+1) V.2 (by rw[Nat.pow_succ]; omega)
   rw[List.foldl_cons,List.length_cons]
   rwa [show k+(s.length+1)=k+1+s.length by omega]
 have:=key s 0 0 h (qu)
 simpa[dgV]using this
theorem Yy(f:Nat->Bool):∀ (n k i:Nat),i<n->WU .bool (nu .bool n) (S6 (e:=.bool) f n k) i=f (k+i)
 | 0,_,_,h=>Z
 | n+1,k,0,_=>by
  rfl
 | n+1,k,i+1,h=>by
  show WU .bool (nu .bool n) (S6 (e:=.bool) f n (k+1)) i=_
  rw[Yy f n (k+1) i (Z)]
  grind
abbrev ef:zo:=[48,49,50,51,52,53,54,55,56,57]
theorem z6z:∀ c:Fin 256,ef.contains (UInt8.ofNat c.val)=decide (48<=c.val/\c.val<=57):=by decide +kernel
theorem Ls{s:zo}{k:Nat}(h:k<s.length):vz s (k:Int)=((s[k]).toNat:Int):=by
 unfold vz; simp[h]
theorem LA(b:UInt8)(s:zo):iv 1 (((b::s).length:Nat):Int) (b::s)=s:=by unfold iv; simp
theorem Si(s:zo)(b:UInt8):iv 0 ((s.length:Nat):Int) (s++[b])=s:=by unfold iv; simp
theorem Uc(b:UInt8):(vj (mh ef) (b.toNat:Int)).run=some (isD b):=by
 have J:b.toNat<256:=b.toNat_lt
 unfold vj
 rw[xe ⟨Z,Z⟩,xz]
 unfold mh
 rw[Int.toNat_natCast,Yy _ 256 0 _ J,Nat.zero_add]
 exact congrArg some (z6z ⟨b.toNat,J⟩)
theorem B1(s:zo)(hs:s.length<=1000000000):∃ r,(jE s (mh ef)).run=some r/\iH r=iH s/\(iH r=true->r=[])/\r.length<=s.length:=by
 have:=T.cR (r:=uG (mh ef)) (λt:zo=>iH t=iH s/\t.length<=s.length) (λt=>t.length) (λr:zo=>iH r=iH s/\(iH r=true->r=[])/\r.length<=s.length) (λt ht => ?_) (s:=s) ⟨rfl,zG _⟩
 ·obtain⟨r,h1,X⟩:=this
  have h1:(jR (mh ef) s).run=some r:=h1
  unfold jE
  rw[zq h1]
  exact⟨r,rfl,X⟩
 ·rcases List.eq_nil_or_concat t with rfl | ⟨l,b,rfl⟩
  ·right
   refine⟨[],?_,ht.1,λ_=>rfl,qu⟩
   rfl
  ·rw[List.concat_eq_append]at ht ⊢
   have B:(l++[b]).length=l.length+1:=qu
   have e1:ql (((l++[b]).length:Int)-1)=(l.length:Int):=by rw[B,qv (Z) (Z)]; omega
   have e2:vz (l++[b]) (l.length:Int)=(b.toNat:Int):=by rw[Ls (qu)]; simp
   unfold uG
   rw[vM (decide_eq_true (qu)),e1,vF _ (Z) (wa),e2,zq (Uc b)]
   cases J:isD b with
   | false =>
    right
    refine⟨_,by rfl,ht.1,λh => ?_,ht.2⟩
    rw[EV,Wb,J]at h; simp at h
   | true =>
    left
    refine⟨l,by rw[je (by rfl),XN _ (Z) (Z) (wa),xz,Si],⟨?_,Z⟩,Z⟩
    rw[<- ht.1,EV,Wb,J]; simp[iH]
theorem DU(s:zo)(hs:s.length<=1000000000):∃ r,(jW s (mh ef)).run=some r/\iH r=iH s/\(iH r=true->r=[]):=by
 have:=T.cR (r:=j4 (mh ef)) (λt:zo=>iH t=iH s) (λt=>t.length) (λr:zo=>iH r=iH s/\(iH r=true->r=[])) (λt ht => ?_) (s:=s) rfl
 ·obtain⟨r,h1,X⟩:=this
  have h1:(kH (mh ef) s).run=some r:=h1
  unfold jW
  rw[zq h1]
  exact⟨r,rfl,X⟩
 ·cases t with
  | nil =>
   right
   refine⟨[],?_,ht,λ_=>rfl⟩
   rfl
  | cons b l =>
   have e2:vz (b::l) 0=(b.toNat:Int):=rfl
   unfold j4
   rw[vM (decide_eq_true (qu)),vF _ (Z) (qu),e2,zq (Uc b)]
   cases J:isD b with
   | false =>
    right
    refine⟨_,by rfl,ht,λh => ?_⟩
    rw[Wb,J]at h; simp at h
   | true =>
    left
    refine⟨l,by rw[je (by rfl),XN _ (Z) (wa) (Z),xz,LA],?_,qu⟩
    rw[<- ht,Wb,J]; rfl
theorem Cz:∀ (j:Nat) b,ef[j]? = some b->b.toNat<128:=by
 intro j b h
 have:b∈ef:=zO h
 simp at this
 rcases this with rfl | rfl | rfl | rfl | rfl | rfl | rfl | rfl | rfl | rfl<;>decide
theorem KI(s:zo)(hs:s.length<=1000000000)(hn:s≠[]):∃ r,(cJ s ef).run=some r/\xw r []=iH s:=by
 obtain⟨r1,a1,a2,a3,a4⟩:=B1 s hs
 obtain⟨r,b1,b2,b3⟩:=DU r1 (Z)
 refine⟨r,?_,?_⟩
 ·have hm:(strings_makeASCIISet ef).run=some (mh ef,true):=by
   unfold strings_makeASCIISet
   rw[xe ⟨qj,Cz⟩,xz]
  have e1:xw s []=false:=by rw[JW]; simpa using hn
  unfold cJ
  rw[je (by rw[e1]; rfl),xe (λh=>wa),je (by rfl),zq hm,J9,zq a1,zq b1,xz]
 ·rw[JW]
  rw[a2]at b2
  cases h:iH s with
  | true=>grind
  | false =>
   rw[h]at b2
   refine decide_eq_false λz => ?_
   subst z; cases b2
instance (b:Bool):Sp (uA b) True (λr=>r.elim (λ_=>b=true) λ_=>b=false):=⟨λ_=>by unfold uA; exact zf (λe=>ze (by simpa using e)) λe=>ze (by simpa using e)⟩
instance (a:zo):Sp (nc a) (a.length<=1000000000) (λr=>r.elim (λn=>0<=n/\n<1000000000000000000) λ_=>True):=⟨λh=>by
 unfold nc
 refine xf (xv (P:=λz:Unit⊕Unit=>z.elim (λ_=>a≠[]/\a.length<=18/\iH a=true) λ_=>True) (zf (λe=>zf (λe2 => ?_) λ_=>za trivial λz hz => ?_) λ_=>za trivial λz hz => ?_) λz hz => ?_)
 ·have e1:a≠[]:=by rw[JW]at e; simpa using e
  obtain⟨r,h1,X⟩:=KI a h e1
  refine xf (bB h1 (za trivial λz hz => ?_))
  rcases z with z | z
  ·have e2:=uY e2
   exact ze ⟨e1,Z,X.symm.trans hz⟩
  ·exact ze trivial
 ·rcases z with z | z
  ·cases hz
  ·exact ze trivial
 ·rcases z with z | z
  ·cases hz
  ·exact ze trivial
 ·rcases z with z | z
  ·obtain⟨h1,X,h3⟩:=hz
   have h4:=zce h3
   have h5:10 ^ a.length<=10 ^ 18:=Nat.pow_le_pow_right (qj) X
   unfold strconv_Atoi
   refine xf (zj ⟨⟨h1,X⟩,λb J=>NW.1 (List.all_eq_true.1 h3 b J)⟩ (ze (za trivial λz hz => ?_)))
   rcases z with z | z
   ·exact ze ⟨by show(0:Int)<=(dgV a:Nat); omega,by show((dgV a:Nat):Int)<_; omega⟩
   ·exact ze trivial
  ·exact ze trivial⟩
open T PL
def zaq{α:Type}(k:Nat)(e:zo->T (α⊕Unit))(d:List zo)(f:Int):(Int×List α)->T ((Int×List α)⊕(List α⊕(Unit×List α)))
 | (b,a) =>
  .ite (decide (b<f))
   (oI b d <|
    T.bind (e (nth d b (zb .str))) <|
     zM (λc =>
      oA a k <|
      oM (a.length+(1:Nat)) (a++([c]:List α)).length <|
      .ret (.inl ((ql (b+(1:Int))),(a++([c]:List α)))))
     (λe =>
      R a <|
      .ret (.inr (.inr (e,a)))))
   (oC a <|
    R a <|
    .ret (.inr (.inl a)))
theorem NI{α:Type}(k:Nat)(hk:k<=64)(e:zo->T (α⊕Unit))(l:List zo)(P:α->Prop)(he:∀ s∈l,(e s).wp λr=>r.elim P λ_=>True)(hn:l.length<=1000000000) :
  (oZ (T.bind (T.loop (zaq k e l (l.length:Int)) ((0:Int),([]:List α))) (zM (λa=>oC a (R a (.ret (.inl a)))) λz=>.ret (.inr z.1))):T (List α⊕Unit)).wp λr=>r.elim (λa=>a.length<=1000000000/\∀ x∈a,P x) λ_=>True:=by
 refine zj ⟨rfl,rfl,rfl⟩ (zj rfl (xf (xv (P:=λz:List α⊕(Unit×List α)=>z.elim (λa=>a.length<=1000000000/\∀ x∈a,P x) λ_=>True) ?_ λz hz => ?_)))
 ·refine ug (σ:=Int×List α) (λz=>0<=z.1/\z.1<=l.length/\(z.2.length:Int)=z.1/\∀ x∈z.2,P x) (λz=>((l.length:Int)-z.1).toNat) ⟨W _,by show(0:Int)<=_; omega,rfl,nofun⟩ ?_
  rintro⟨i,a⟩ ⟨i0,i1,ha,hp⟩
  dsimp only at i0 i1 ha hp
  unfold zaq
  refine zf (λV => ?_) λV=>zc (z8 (ze ⟨Z,hp⟩))
  have V:=uY V
  have hw:ql (i+1)=i+1:=qv (Z) (Z)
  refine qq ⟨i0,V⟩ (xf (xv (he _ (xo i0 V)) λz hz => ?_))
  rcases z with c | c
  ·have hm:(a.length+1)*k<=(a.length+1)*64:=Nat.mul_le_mul_left _ hk
   refine vX (Z) (uH (KU _ _).symm (ze ?_))
   rw[hw]
   exact⟨⟨by show 0<=i+1; omega,by show i+1<=_; omega,by show((a++[c]).length:Int)=i+1; rw[KU]; omega,jP hp hz⟩,by simp only; omega⟩
  ·exact z8 (ze trivial)
 ·rcases z with z | z
  ·exact zc (z8 (ze hz))
  ·exact ze trivial
def bL(l:List zo):Prop:=l.length<=1000000000/\∀ s∈l,s.length<=1000000000
instance (s:zo):Sp (dF s) True (λr=>r.elim (λa=>rg a/\rl a<=1700) λ_=>True):=⟨λ_=>by
 unfold dF
 refine za trivial λa ha=>za trivial λz _ => ?_
 rcases z with z | z
 ·exact ze ha
 ·exact ze trivial⟩
instance (s:zo):Sp (nd s) True (λr=>r.elim (λ_=>True) λ_=>True):=⟨λ_=>by
 unfold nd
 refine zf (λ_=>za trivial λz _ => ?_) λ_=>za trivial λz _ => ?_
 ·rcases z with z | z<;>exact ze trivial
 ·rcases z with z | z<;>exact ze trivial⟩
instance (s:zo):Sp (nf s) (s.length<=1000000000) (λr=>r.elim (λn => -1<=n/\n<1000000000000000000) λ_=>True):=⟨λh=>by
 unfold nf
 refine zf (λ_=>ze (by show(-1:Int) <= -1/\(-1:Int)<1000000000000000000; decide)) λ_=>za h λz hz => ?_
 rcases z with z | z
 ·exact ze ⟨by have:0<=z:=hz.1; show -1<=z; omega,hz.2⟩
 ·exact ze trivial⟩
instance (a b:zo):Sp (strings_CutSuffix a b) (a.length<=1000000000/\b.length<=1000000000) (λ_=>True):=⟨λ⟨h,k⟩=>by
 have hw:ql ((a.length:Int)-b.length)=a.length-b.length:=qv (Z) (Z)
 unfold strings_CutSuffix kg ki
 rw[hw]
 refine xf (xf (zj (λe => ?_) (ze (zf (λ_=>ze (ze trivial)) λe=>zj ?_ (ze (ze trivial))))))
 ·have:=uY e
  exact⟨Z,Z,Z⟩
 ·have:(b.length:Int)<=a.length:=by
   by_cases q:(b.length:Int)<=a.length
   ·exact q
   ·rw[decide_eq_false q]at e; cases e
  exact⟨Z,Z,Z⟩⟩
instance (s:zo):Sp (ng s) (s.length<=1000000000) (λr=>r.elim Pn λ_=>True):=⟨λh=>by
 unfold ng
 refine zf (λ_=>za ⟨qj,qj⟩ λa ha=>ze ⟨ha.1,?_⟩) λ_=>za ⟨h,qj⟩ λx _=>za trivial λz hz => ?_
 ·have X:rl a<=2:=ha.2
  exact zA X (qj)
 ·rcases z with z | z
  ·exact ze hz
  ·exact ze trivial⟩
instance (b:List zo) (u:Unit):Sp (uQ b u) (bL b) (λr=>r.elim rs λ_=>True):=⟨λh=>NI 56 (qj) _ b _ (λ_ _=>Sp.sp trivial) h.1⟩
instance (b:List zo) (u:Unit):Sp (uR b u) (bL b) (λr=>r.elim (λa=>a.length<=1000000000/\∀ x∈a,True) λ_=>True):=⟨λh=>NI 1 (qj) _ b (λ_=>True) (λ_ _=>Sp.sp trivial) h.1⟩
instance (b:List zo) (u:Unit):Sp (yh b u) (bL b) (λr=>r.elim (λa=>a.length<=1000000000/\ou a) λ_=>True):=⟨λh=>NI 8 (qj) _ b _ (λs hs=>Sp.sp (h.2 s hs)) h.1⟩
instance (b:List zo) (u:Unit):Sp (js b u) (bL b) (λr=>r.elim Ps λ_=>True):=⟨λh=>NI 64 (qj) _ b _ (λs hs=>Sp.sp (h.2 s hs)) h.1⟩
instance (a:gU):Sp (bG a) (a.1.length<=1000000000) (λr=>r.elim (λz=>z.1.length<=1000000000/\z.2.1.length<=1000000000/\z.1.length<1000000000+1) λ_=>True):=⟨λh=>by
 unfold bG
 refine za h λ⟨b,c,d⟩ hz=>za trivial λz _ => ?_
 have hz:b.length+c.length<=a.1.length:=hz
 rcases z with z | z
 ·exact ze ⟨by show b.length<=_; omega,by show c.length<=_; omega,by show b.length<_; omega⟩
 ·exact ze trivial⟩
instance (w:zo) (a:gU):Sp (wR w a) (a.1.length<=1000000000) (λr=>r.elim (λz=>bL z.1/\z.2.1.length<=1000000000) λ_=>True):=⟨λh=>by
 unfold wR
 refine za h λz hz => ?_
 rcases z with⟨c,b⟩ | z
 ·obtain⟨h1,X,-⟩:=hz
  have h1:c.length<=1000000000:=h1
  have X:b.1.length<=1000000000:=X
  have h3:=z4h 32 c
  have h4:(eO 32 c).length<=sP (eO 32 c)/\(eO 32 c=[]->sP (eO 32 c)=0):=by
   generalize eO 32 c=l
   refine⟨?_,λe=>by rw[e]; rfl⟩
   induction l with
   | nil=>exact Y _
   | cons a l ih=>unfold sP at *; simp; omega
  have h5:1<=(eO 32 c).length:=by
   rcases Nat.eq_zero_or_pos (eO 32 c).length with e | e
   ·have:=h4.2 (List.eq_nil_of_length_eq_zero e); omega
   ·exact e
  unfold strings_Split
  refine xf (zj ⟨Z,rfl⟩ (ze (qq ⟨qj,by show(0:Int)<(eO 32 c).length; omega⟩ (za trivial λz _ => ?_))))
  rcases z with z | z
  ·refine zj ⟨qj,by show(1:Int)<=(eO 32 c).length; omega,W _⟩ (ze ⟨⟨?_,λs hs => ?_⟩,X⟩)
   ·show(zH _ (I _ (eO 32 c))).length<=_
    rw[zL,zE]
    show min _ _-1<=_
    omega
   ·exact zA (h3.2 s (zI (zP hs))) h1
  ·exact ze trivial
 ·exact ze trivial⟩
theorem cu0:zu 0 0 0 0:=⟨rfl,rfl,rfl⟩
instance (a:Int):Sp (iJ a) True (λr=>r=a):=⟨λ_=>by unfold iJ; exact vy rfl (ze rfl)⟩
instance (u:Unit) (a:Int):Sp (wF u a) True (λr=>r=2):=⟨λ_=>by unfold wF; exact wk rfl (vy rfl (ze rfl))⟩
theorem JC{p:Prop} (h:p:=by
 refine za trivial λ_ e => ?_
 subst e
 repeat' (with_reducible first | refine z8 ?_ | refine zc ?_ | refine zj cu0 ?_ | refine zj (Eq.refl 0) ?_)
 exact ze (nz (a:=2) (qj))):p:=h
abbrev R8d(r:Unit×Int×List Lf.Rat×List Bool×List Lf.Rat×List Int×List wz×List Bool):wg:=(r.2.2.1,r.2.2.2.1,r.2.2.2.2.1,r.2.2.2.2.2.1,r.2.2.2.2.2.2.1,r.2.2.2.2.2.2.2,())
instance (s:zo):Sp (pj s) (s.length<=1000000000) (λr=>r.2.1=0->Dw (R8d r)):=⟨λhs=>by
 unfold pj
 refine za hs λz hz => ?_
 rcases z with⟨k,l⟩ | ⟨y,l⟩
 rotate_left
 ·exact JC
 refine za hz.1 λz h1 => ?_
 rcases z with a | z
 rotate_left
 ·exact JC
 have B:l.1.length<=1000000000:=hz.2
 clear hz
 refine za B λz hz => ?_
 rcases z with⟨k,l⟩ | ⟨y,l⟩
 rotate_left
 ·exact JC
 refine za hz.1 λz X => ?_
 rcases z with b | z
 rotate_left
 ·exact JC
 have B:l.1.length<=1000000000:=hz.2
 clear hz
 refine za B λz hz => ?_
 rcases z with⟨k,l⟩ | ⟨y,l⟩
 rotate_left
 ·exact JC
 refine za hz.1 λz h3 => ?_
 rcases z with c | z
 rotate_left
 ·exact JC
 have B:l.1.length<=1000000000:=hz.2
 clear hz
 refine za B λz hz => ?_
 rcases z with⟨k,l⟩ | ⟨y,l⟩
 rotate_left
 ·exact JC
 refine za hz.1 λz h4 => ?_
 rcases z with d | z
 rotate_left
 ·exact JC
 have B:l.1.length<=1000000000:=hz.2
 clear hz
 refine za B λz hz => ?_
 rcases z with⟨k,l⟩ | ⟨y,l⟩
 rotate_left
 ·exact JC
 refine za hz.1 λz h5 => ?_
 rcases z with e | z
 rotate_left
 ·exact JC
 have B:l.1.length<=1000000000:=hz.2
 clear hz
 refine za B λz hz => ?_
 rcases z with⟨k,l⟩ | ⟨y,l⟩
 rotate_left
 ·exact JC
 refine za hz.1 λz h6 => ?_
 rcases z with f | z
 rotate_left
 ·exact JC
 dsimp only[Sum.elim_inl]
 rw[db,db,db,db,db,db]
 have hD:Dw (a,b,c,d,e,f,()):=⟨h1,X.1,h3,h4.1,h5,h6.1,h4.2⟩
 refine z4C (za hD λv _=>za trivial λz _ => ?_)
 rcases z with z | z
 rotate_left
 ·exact JC
 refine za trivial λw _ => ?_
 repeat' (with_reducible first | refine z8 ?_ | refine zc ?_)
 exact ze λ_=>hD⟩
instance (f:Form) (s:zo):Sp (te f s) (FW 8200 f/\s.length<=1000000000) (λr=>r.2=0->Dx f r.1):=⟨λ⟨hF,hs⟩=>by
 unfold te
 refine za hs λ⟨l,g,a,b,c,d,e,h⟩ hz => ?_
 dsimp only
 rw[db,db,db,db,db,db]
 refine zf (λq=>ze (nz (by simpa using q))) λq=>z4C (za ⟨hF,hz (by simpa using q)⟩ λi hi=>zf (λ_=>ze (nz (a:=1) (qj))) λq2=>z4C (ze λ_=>hi (by simpa using q2)))⟩
open T PL
def vh(v:wq):Prop:=v.1.length<=20000/\v.2.1.length<=20000/\rs v.2.2.1
instance (f:Form) (l:List Lf.Rat):Sp (rL f l) (FV f/\rs l) (λr=>vh r):=⟨λh=>by
 obtain⟨h1,_⟩:=FV.fe h.1
 have X:l.length<=1000000000:=h.2.1
 unfold rL vh
 exact goe⟩
instance (d:zo) (a:wq) (g:List Lf.Rat):Sp (U6 d a g) (vh a/\rs g) (λr=>rg r.1/\rl r.1<=1700):=⟨λ⟨⟨h1,X,h3⟩,hg⟩=>by
 unfold U6
 exact za (Z) λb J=>zf (λ_=>za hg λe he=>ze ⟨he.1,he.2.1⟩) λ_=>za (Z) λc hc=>zf (λ_=>ze ⟨XO.1,zA (zR XO.2) (qj)⟩) λ_=>za h3 λf hf=>ze ⟨hf.1,hf.2.1⟩⟩
instance (e:Expr) (v:wq) (l:List Lf.Rat):Sp (ZI e v l) (EK e/\vh v/\rs l) (λr=>rg r.1/\rl r.1<=440000):=⟨λh=>by
 obtain⟨⟨n,hn,he⟩,hv,B⟩:=h
 unfold ZI
 refine xv (P:=λr=>∀ n,EO n e->rg r.1/\rl r.1<=1710*n) ?_ λr hr=>by have:=hr n he; exact⟨this.1,Z⟩
 refine sR (x:=(e,v,l)) (λ(e,v,l)=>(∃ n,n<=256/\EO n e)/\vh v/\rs l) (λ(e,_)=>zQ e) (λ(e,_) (r:Lf.Rat×Int)=>∀ n,EO n e->rg r.1/\rl r.1<=1710*n) ?_ ?_ ⟨⟨n,hn,he⟩,hv,B⟩
 ·intro g g' hg x
  unfold yt
  exact mono
 ·intro⟨e,v,l⟩ ⟨⟨n,hn,he⟩,hv,B⟩ g hg
  have z:rg (false,[],[],())/\rl (false,[],[],())<=0:=⟨XO.1,zR XO.2⟩
  have hq:∀ {n'},EO n' e->n'=n:=λh=>h.uniq he
  suffices (yt (λy0 y1 y2=>g (y0,y1,y2)) e v l).wp λr=>rg r.1/\rl r.1<=1710*n from xv this λr hr n' h=>by rw[hq h]; exact hr
  clear hq
  cases he with
  | num h1 X =>
   unfold yt
   simp only[Expr.kids,Expr.kind,Expr.num,Expr.name]
   exact vy rfl Fc
  | nam h1 =>
   unfold yt
   simp only[Expr.kids,Expr.kind,Expr.num,Expr.name]
   exact wk rfl (vy rfl Fc)
  | @neg m s i a h1 =>
   have ha:Sp (g (a,v,l)) True (λr=>rg r.1/\rl r.1<=1710*i):=⟨λ_=>xv (hg (a,v,l) ⟨⟨i,Z,h1⟩,hv,B⟩ (by simp<;>omega)) λr hr=>hr i h1⟩
   unfold yt
   simp only[Expr.kids,Expr.kind,Expr.num,Expr.name]
   clear hg
   refine wk rfl (wk rfl (qq ⟨Z,qu⟩ ?_))
   rw[show nth [a] 0 (zb .expr)=a from rfl]
   refine za trivial λr hr=>zf (λ_=>ze ?_) λ_=>vy rfl ?_
   ·grind
   ·exact Fc
  | @bin k m s i j a b h1 X h3 h4 =>
   have ha:Sp (g (a,v,l)) True (λr=>rg r.1/\rl r.1<=1710*i):=⟨λ_=>xv (hg (a,v,l) ⟨⟨i,Z,h3⟩,hv,B⟩ (by simp<;>omega)) λr hr=>hr i h3⟩
   have J:Sp (g (b,v,l)) True (λr=>rg r.1/\rl r.1<=1710*j):=⟨λ_=>xv (hg (b,v,l) ⟨⟨j,Z,h4⟩,hv,B⟩ (by simp<;>omega)) λr hr=>hr j h4⟩
   unfold yt
   simp only[Expr.kids,Expr.kind,Expr.num,Expr.name]
   clear hg
   refine wk (wa) (wk (wa) (qq ⟨Z,by simp<;>omega⟩ ?_))
   rw[show nth [a,b] 0 (zb .expr)=a from rfl,show nth [a,b] 1 (zb .expr)=b from rfl]
   refine za trivial λr hr=>zf (λ_=>ze ?_) λ_=>wk (wa) (qq ⟨Z,qu⟩ ?_)
   ·grind
   ·exact Fc⟩
instance (e:Expr) (v:wq) (l:List Lf.Rat):Sp (Z4 e v l) (EW KK e/\vh v/\rs l) (λr=>rg r.1/\rl r.1<=440000):=⟨λ⟨h1,X,h3⟩=>by
 unfold Z4
 exact za h1 λb J=>zf (λ_=>ze ⟨XO.1,zA (zR XO.2) (qj)⟩) λe=>za ⟨J (by simpa using e),X,h3⟩ λz hz=>ze hz⟩
instance (c:Check) (v:wq) (l:List Lf.Rat):Sp (pH c v l) (EW KK c.2.2.2.1/\EW KK c.2.2.2.2.1/\vh v/\rs l) (λ_=>True):=⟨λ⟨h1,X,h3⟩=>by
 unfold pH
 refine za ⟨h1,h3⟩ λx U=>za ⟨X,h3⟩ λy hy=>zf (λ_=>ze trivial) λ_=>za ⟨U.1,hy.1,?_⟩ λb _=>zf (λ_=>ze trivial) λ_=>zf (λ_=>ze trivial) λ_=>ze trivial
 have Da:=U.2
 have hy2:=hy.2
 omega⟩
open T PL
abbrev M3:=Int×wq×List zo
theorem zil(f:Form)(d:wg)(i:Int)(x:List Bool)(p q:Int)(g:List Field)(e:wq)(b:List zo)(hg:g.length<=64)(J:b.length<=100000000) :
  (lC f d i x p q g (g.length:Int) (0,e,b)).wp λr=>∃ c:List zo,r=(e,c)/\c.length<=b.length+64:=by
 unfold lC
 refine ug (λz:M3=>∃ (k:Int) (c:List zo),z=(k,e,c)/\0<=k/\k<=g.length/\(c.length:Int)<=b.length+k) (λz:M3=>((g.length:Int)-z.1).toNat) ⟨0,b,rfl,qj,Z,Z⟩ ?_
 rintro _ ⟨k,c,rfl,k0,k1,hc⟩
 unfold lF
 refine zf (λV => ?_) λV=>zc (z8 (ze ⟨c,rfl,Z⟩))
 have V:=uY V
 have hw:ql (k+1)=k+1:=qv (Z) (Z)
 refine qq ⟨k0,V⟩ (zj (λ_ _ h=>⟨k0,by have:=hZ h; omega⟩) (zf (λ_=>vX (Z) (uH (KU _ _).symm (ze ?_))) λ_=>zc (z8 (ze ?_))))
 ·rw[hw]
  exact⟨⟨k+1,_,rfl,Z,Z,by rw[KU]; omega⟩,by simp only; omega⟩
 ·rw[hw]
  exact⟨⟨k+1,_,rfl,Z,Z,Z⟩,by simp only; omega⟩
theorem zim(f:Form)(d:wg)(i:Int)(x:List Bool)(p q:Int)(g:List Check)(e:wq)(b:List zo)(hg:g.length<=8200/\∀ x∈g,EW KK x.2.2.2.1/\EW KK x.2.2.2.2.1)(hv:vh e/\rs d.2.2.1)(J:b.length<=100000000) :
  (lD f d i x p q g (g.length:Int) (0,e,b)).wp λr=>∃ c:List zo,r=(e,c)/\c.length<=b.length+8200:=by
 have TU:=hg.1
 unfold lD
 refine ug (λz:M3=>∃ (k:Int) (c:List zo),z=(k,e,c)/\0<=k/\k<=g.length/\(c.length:Int)<=b.length+k) (λz:M3=>((g.length:Int)-z.1).toNat) ⟨0,b,rfl,qj,Z,Z⟩ ?_
 rintro _ ⟨k,c,rfl,k0,k1,hc⟩
 unfold lG
 refine zf (λV => ?_) λV=>zc (z8 (ze ⟨c,rfl,Z⟩))
 have V:=uY V
 have hw:ql (k+1)=k+1:=qv (Z) (Z)
 have U:=hg.2 _ (xo (d:=zb xk) k0 V)
 refine qq ⟨k0,V⟩ (xf (xv (P:=λz=>∃ (q:Bool) (h:Check),z=(q,e,c,h)) (zf (λ_=>za ⟨U.1,U.2,hv⟩ λq _=>zc (z8 (ze ⟨_,_,rfl⟩))) λ_=>zc (z8 (ze ⟨_,_,rfl⟩))) ?_))
 rintro _ ⟨q,h,rfl⟩
 refine zf (λ_=>vX (Z) (uH (KU _ _).symm (ze ?_))) λ_=>zc (z8 (ze ?_))
 ·rw[hw]
  exact⟨⟨k+1,_,rfl,Z,Z,by rw[KU]; omega⟩,by simp only; omega⟩
 ·rw[hw]
  exact⟨⟨k+1,_,rfl,Z,Z,Z⟩,by simp only; omega⟩
instance (f:Form) (d:wg):Sp (lB f d) (Dx f d) (λr=>r.length<=70000000):=⟨λ⟨hD,hV,f1,_⟩=>by
 have n3:=hV.1.2.2.1.1
 have n6:=hV.1.2.2.2.2.2
 unfold lB
 refine za ⟨hV,hD.1⟩ λe he=>za hV.1 λx ⟨U,_⟩=>zj cu0 (zj rfl (xf (xv (P:=λz=>z.2.length<=70000000) ?_ λz hz=>z8 (ze (by rw[db]; exact hz)))))
 unfold tE
 refine ug (λz:M3=>∃ (k:Int) (c:List zo),z=(k,e,c)/\0<=k/\k<=x.length/\(c.length:Int)<=8264*k) (λz:M3=>((x.length:Int)-z.1).toNat) ⟨0,[],rfl,qj,Z,qj⟩ ?_
 rintro _ ⟨k,c,rfl,k0,k1,hc⟩
 unfold lE
 refine zf (λV => ?_) λV=>zc (z8 (ze (by show c.length<=_; omega)))
 have V:=uY V
 have hw:ql (k+1)=k+1:=qv (Z) (Z)
 refine qq ⟨k0,V⟩ (zf (λ_=>zc (z8 (ze ?_))) λ_=>zc (z8 (xf (xv (zil f d k x _ k f.2.2.2.1 e c f1 (Z)) ?_))))
 ·rw[hw]
  exact⟨⟨k+1,_,rfl,Z,Z,Z⟩,by simp only; omega⟩
 ·rintro _ ⟨c1,rfl,h1⟩
  refine zc (z8 (xf (xv (zim f d k x _ k f.2.2.2.2.2.1 e c1 ⟨n6.1,λy hy=>(n6.2 y hy).2⟩ ⟨he,hD.2.2.1⟩ (Z)) ?_)))
  rintro _ ⟨c2,rfl,X⟩
  refine zc (z8 (ze ?_))
  rw[hw]
  exact⟨⟨k+1,_,rfl,Z,Z,Z⟩,by simp only; omega⟩⟩
def it(l:List Param):Prop:=∀ x∈l,x.1.length<=24/\rg x.2.1/\rl x.2.1<=1700
instance (f:Form) (d:wg):Sp (Wv f d) (Dx f d) (λr=>it r/\r.length<=64):=⟨λ⟨hD,hV,f1,_⟩=>by
 have hn:=λx U=>(hV.2.2.2.2.1 x U).1.1
 have n3:=hV.1.2.2.1.1
 unfold Wv
 refine za hV.1 λo ⟨ho,_⟩=>zj cu0 (zj rfl (xf (xv (P:=λz=>it z/\z.length<=64) ?_ λz hz=>z8 (ze (by rw[db]; exact hz)))))
 unfold J5
 refine ug (λz:Int×List Param=>0<=z.1/\z.1<=f.2.2.2.1.length/\(z.2.length:Int)<=z.1/\it z.2) (λz=>((f.2.2.2.1.length:Int)-z.1).toNat) ⟨W _,by show(0:Int)<=_; omega,W _,nofun⟩ ?_
 rintro⟨k,a⟩ ⟨k0,k1,ha,hi⟩
 dsimp only at k0 k1 ha hi
 unfold Qq
 refine zf (λV => ?_) λV=>zc (z8 (ze ⟨hi,Z⟩))
 have V:=uY V
 have hw:ql (k+1)=k+1:=qv (Z) (Z)
 have U:=hn _ (xo (d:=zb qw) k0 V)
 refine qq ⟨k0,V⟩ (zj (λh1 X=>⟨Int.not_lt.1 (hZ h1),Int.not_le.1 (hZ X)⟩) (zf (λ_=>zc (z8 (ze ?_))) λ_=>za ⟨qj,qj⟩ λj hj=>xf (xv (P:=λz=>∃ r:Lf.Rat,z=(a,nth f.2.2.2.1 k (zb qw),r)/\rg r/\rl r<=1700) (zf (λhv => ?_) λ_=>zc (z8 (ze ⟨j,rfl,hj.1,?_⟩))) ?_)))
 ·rw[hw]
  exact⟨⟨by show 0<=k+1; omega,by show k+1<=_; omega,by show(a.length:Int)<=k+1; omega,hi⟩,by simp only; omega⟩
 ·have hv:=uY hv
  have q:=DK hD.2.2.1 k k0 hv
  refine qq ⟨k0,hv⟩ (za ⟨q.1,zA q.2 (qj)⟩ λr hr=>zc (z8 (ze ⟨r,rfl,hr.1,?_⟩)))
  have:=hr.2.1
  have:=q.2
  omega
 ·have:=hj.2; omega
 ·rintro _ ⟨r,rfl,hr,hr2⟩
  refine vX (Z) (uH (KU _ _).symm (ze ?_))
  rw[hw]
  exact⟨⟨by show 0<=k+1; omega,by show k+1<=_; omega,by show((a++[_]).length:Int)<=k+1; rw[KU]; omega,jP hi ⟨U,hr,hr2⟩⟩,by simp only; omega⟩⟩
instance (l:List Param):Sp (np l) (it l/\l.length<=64) (λ_=>True):=⟨λ⟨hi,hn⟩=>by
 unfold np
 refine zj cu0 (zj rfl (xf (xv (P:=λz=>bt z.2/\z.2.length<=10000000) ?_ λz hz=>zc (z8 ?_))))
 ·unfold Zu
  refine ug (λz:Int×Unit×List Int=>0<=z.1/\z.1<=l.length/\bt z.2.2/\(z.2.2.length:Int)<=70000*z.1) (λz=>((l.length:Int)-z.1).toNat) ⟨W _,by show(0:Int)<=_; omega,(λ_ h=>nomatch h),qj⟩ ?_
  rintro⟨k,u,a⟩ ⟨k0,k1,J,ha⟩
  dsimp only at k0 k1 J ha
  unfold mN
  refine zf (λV => ?_) λV=>zc (z8 (ze ⟨J,by show a.length<=_; omega⟩))
  have V:=uY V
  have hw:ql (k+1)=k+1:=qv (Z) (Z)
  obtain⟨x1,x2,x3⟩:=hi _ (xo (d:=zb qg) k0 V)
  refine qq ⟨k0,V⟩ (vq (by show _+1<=_; omega) (za ⟨x2,zA x3 (qj)⟩ λs hs => ?_))
  have hs:s.length<=40*rl (nth l k (zb qg)).2.1+50:=hs.1
  have l1:(cat (nth l k (zb qg)).1 [32]).length=(nth l k (zb qg)).1.length+1:=ZL _ _
  have l2:(cat (cat (nth l k (zb qg)).1 [32]) s).length=(nth l k (zb qg)).1.length+1+s.length:=by rw[ZL,l1]
  have l3:(cat (cat (cat (nth l k (zb qg)).1 [32]) s) [10]).length=(nth l k (zb qg)).1.length+1+s.length+1:=by rw[ZL,l2]; rfl
  refine vq (Z) (vq (by rw[l2]; show _+1<=_; omega) (zc (z8 (za (by rw[l3]; omega) λ⟨h,i,e⟩ he=>zc (z8 (ze ?_))))))
  have he:e=a++bytesOf _:=he
  subst he
  rw[hw]
  exact⟨⟨by show 0<=k+1; omega,by show k+1<=_; omega,Vd J _,by show((a++bytesOf _).length:Int)<=_; rw[List.length_append,ez,l3]; omega⟩,by simp only; omega⟩
 ·unfold pZ z4n
  exact xf (zj ⟨hz.1,zA hz.2 (qj)⟩ (ze (ze trivial)))⟩
open T PL
def Ei(e:zk):Prop:=Dx e.1 e.2.1/\Hw e.2.2.1/\Pg e.1 e.2.1.2.1 e.2.2.2.1
def An(e:zk)(r:Answer×zk):Prop:=Ei r.2/\r.1.2.1.length<=70000000/\r.2.1=e.1/\(r.1.1≠0->r.2=e/\r.1.2.2.1=[])
def Pu(e e':zk):Prop:=e'.2.2.1.1.length=min 32 (e.2.2.1.1.length+1)/\e'.2.2.1.2.1.length=0
def Un(e e':zk):Prop:=e'.2.2.1.1.length+1=e.2.2.1.1.length/\e'.2.2.1.2.1.length=e.2.2.1.2.1.length+1
def Re(e e':zk):Prop:=e'.2.2.1.1.length=e.2.2.1.1.length+1/\e'.2.2.1.2.1.length+1=e.2.2.1.2.1.length
theorem An.er{e:zk}(h:Ei e)(n:Int)(l:List zo)(B:l.length<=70000000):An e ((n,l,[],()),e):=⟨h,B,rfl,λ_=>⟨rfl,rfl⟩⟩
instance (d:wg) (l:List zo) (n:Int) (e:zk):Sp (vA d l n e) (Ei e/\(n=0->Dx e.1 d)/\l.length<=1) (λr=>An e r/\(r.1.1=0->Pu e r.2)/\(r.1.1≠0->r.2.2.2.1=e.2.2.1)):=⟨λ⟨he,V,B⟩=>by
 have hF:FW 8200 e.1:=he.1.2.1.1
 unfold vA
 refine zf (λh=>ze ⟨An.er he n l (Z),nz (by simpa using h),λ_=>rfl⟩) λh => ?_
 have V:=V (by simpa using h)
 refine za he.1.1 λs hs=>za ⟨he.2.1,zA hs he.1.len⟩ λc hc=>za ⟨hF,he.2.2.1⟩ λg hg=>ze ⟨⟨⟨V,hc.1,hg⟩,Y _,rfl,nofun⟩,λ_=>hc.2,nofun⟩⟩
instance (i n:Int) (e:zk):Sp (jU i n e) (Ei e/\(n=0->Pg e.1 e.2.1.2.1 i)) (λr=>An e r/\r.2.2.2.1=e.2.2.1/\r.2.2.1=e.2.1):=⟨λ⟨he,hi⟩=>by
 unfold jU
 exact zf (λh=>ze ⟨An.er he n [] (Y _),rfl,rfl⟩) λh=>ze ⟨⟨⟨he.1,he.2.1,hi (by simpa using h)⟩,Y _,rfl,nofun⟩,rfl,rfl⟩⟩
theorem PM(f:Form->List Bool->Int->T (Int×Bool))(hf:∀ x l a,FW 8200 x->(f x l a).wp λr=>r.2=true->Gd (QU x l) r.1)(e:zk)(he:Ei e):(jd f e).wp λr=>An e r/\r.2.2.2.1=e.2.2.1/\r.2.2.1=e.2.1:=by
 have hF:FW 8200 e.1:=he.1.2.1.1
 unfold jd
 exact xf (xv (hf _ _ _ hF) λ⟨b,c⟩ J=>zf (λ_=>ze ⟨An.er he 13 [] (Y _),rfl,rfl⟩) λk=>za ⟨he,λ_=>En hF.2.2.1.1 (J (by simpa using k))⟩ λ⟨d,e⟩ hr=>ze hr)
theorem Ip(j:dT->zo->T (dT×zo×Bool))(P:dT->dT->Prop)(hj:∀ h s,Hw h/\s.length<=1000000000->(j h s).wp λr=>(Hw r.1/\r.2.1.length<=1000000000)/\(r.2.2=true->P h r.1))(e:zk)(he:Ei e):(uU j e).wp λr=>An e r/\(r.1.1=0->P e.2.2.1 r.2.2.2.1)/\(r.1.1≠0->r.2.2.2.1=e.2.2.1):=by
 have hF:FW 8200 e.1:=he.1.2.1.1
 unfold uU
 refine za he.1.1 λs hs=>xf (xv (hj _ _ ⟨he.2.1,zA hs he.1.len⟩) λ⟨d,g,h⟩ V=>zf (λ_=>ze ⟨An.er he 13 [] (Y _),nz (a:=13) (qj),λ_=>rfl⟩) λhh=>za ⟨hF,V.1.2⟩ λ⟨b,x⟩ J=>zf (λh=>ze ⟨An.er he x [] (Y _),nz (by simpa using h),λ_=>rfl⟩) λh => ?_)
 have J:Dx e.1 b:=J (by simpa using h)
 exact za ⟨hF,he.2.2.1⟩ λi hi=>ze ⟨⟨⟨J,V.1.1,hi⟩,Y _,rfl,nofun⟩,λ_=>V.2 (by simpa using hh),nofun⟩
instance (e:zk):Sp (y8 e) (Ei e) (λr=>An e r/\r.2.2.2.1=e.2.2.1):=⟨λhe=>by
 have hD:Dx e.1 e.2.1:=he.1
 unfold y8
 exact za hD λd V=>zf (λ_=>ze ⟨An.er he 15 d V,rfl⟩) λ_=>za hD λl B=>za B λs _=>ze ⟨⟨he,Y _,rfl,nofun⟩,rfl⟩⟩
def Kn(k:Int)(e:zk)(r:Answer×zk):Prop :=
 (r.1.1=0->1<=k->k<=5->Pu e r.2)/\(r.1.1=0->k=9->Un e r.2)/\(r.1.1=0->k=10->Re e r.2)/\(¬ (r.1.1=0/\(1<=k/\k<=5\/k=9\/k=10))->r.2.2.2.1=e.2.2.1)/\(6<=k->k<=8->r.2.2.1=e.2.1)
def Ov(o:Op):Prop:=rg o.2.2.1/\rl o.2.2.1<=1700
theorem eqI{a b:Int}(h:(a==b)=true):a=b:=eq_of_beq h
theorem neI{a b:Int}(h:(a==b)=false):a≠b:=beq_eq_false_iff_ne.1 h
theorem k23{k:Int}(h:(bif (k==2)then(k==2)else(k==3))=true):1<=k/\k<=5:=by
 cases q:k==2 with
 | true=>have:=eqI q; omega
 | false=>rw[q]at h; have:=eqI h; omega
theorem Kn.ch{k:Int}{e:zk}{r:Answer×zk}(hk:1<=k/\k<=5)(h:An e r/\(r.1.1=0->Pu e r.2)/\(r.1.1≠0->r.2.2.2.1=e.2.2.1)):An e r/\Kn k e r :=
 ⟨h.1,λq _ _=>h.2.1 q,Z,Z,λq=>h.2.2 λz=>q ⟨z,.inl hk⟩,Z⟩
theorem Kn.tu{k:Int}{e:zk}{r:Answer×zk}(hk:6<=k/\k<=8)(h:An e r/\r.2.2.2.1=e.2.2.1/\r.2.2.1=e.2.1):An e r/\Kn k e r :=
 ⟨h.1,Z,Z,Z,λ_=>h.2.1,λ_ _=>h.2.2⟩
instance (o:Op) (e:zk):Sp (gV o e) (Ei e/\Ov o) (λr=>An e r/\Kn o.1 e r):=⟨λ⟨he,hv⟩=>by
 have hF:FW 8200 e.1:=he.1.2.1.1
 have hD:Dw e.2.1:=he.1.1
 unfold gV
 dsimp only
 refine zf (λk=>za ⟨hF,hD,hv⟩ λ⟨x,y,z⟩ hz=>za ⟨he,hz.1,hz.2⟩ λr hr=>ze (Kn.ch (by have:=eqI k; omega) hr)) λk1 => ?_
 refine zf (λk=>za ⟨hF,hD⟩ λ⟨x,y,z⟩ hz=>za ⟨he,hz.1,hz.2⟩ λr hr=>ze (Kn.ch (k23 k) hr)) λk2 => ?_
 refine zf (λk=>za ⟨hF,hD,hv⟩ λ⟨x,y,z⟩ hz=>za ⟨he,hz.1,hz.2⟩ λr hr=>ze (Kn.ch (by have:=eqI k; omega) hr)) λk4 => ?_
 refine zf (λk=>za ⟨hF,hD⟩ λ⟨x,y,z⟩ hz=>za ⟨he,hz.1,hz.2⟩ λr hr=>ze (Kn.ch (by have:=eqI k; omega) hr)) λk5 => ?_
 refine zf (λk=>xf (xv (PM _ (λx l a h=>xv (Sp.sp h) λ_ q=>q.1) e he) λr hr=>ze (Kn.tu (by have:=eqI k; omega) hr))) λk6 => ?_
 refine zf (λk=>xf (xv (PM _ (λx l a h=>xv (Sp.sp h) λ_ q=>q.1) e he) λr hr=>ze (Kn.tu (by have:=eqI k; omega) hr))) λk7 => ?_
 refine zf (λk=>za hF λ⟨x,y⟩ U=>za ⟨he,U⟩ λr hr=>ze (Kn.tu (by have:=eqI k; omega) hr)) λk8 => ?_
 refine zf (λk=>xf (xv (Ip _ (λh h'=>h'.1.length+1=h.1.length/\h'.2.1.length=h.2.1.length+1) (λh s q=>Sp.sp q) e he) λr hr=>ze ?_)) λk9 => ?_
 ·have k:=eqI k
  exact⟨hr.1,Z,λq _=>hr.2.1 q,Z,λq=>hr.2.2 λz=>q ⟨z,.inr (.inl k)⟩,Z⟩
 refine zf (λk=>xf (xv (Ip _ (λh h'=>h'.1.length=h.1.length+1/\h'.2.1.length+1=h.2.1.length) (λh s q=>Sp.sp q) e he) λr hr=>ze ?_)) λk10 => ?_
 ·have k:=eqI k
  exact⟨hr.1,Z,Z,λq _=>hr.2.1 q,λq=>hr.2.2 λz=>q ⟨z,.inr (.inr k)⟩,Z⟩
 have n1:=neI k1
 have n2:Ne (α:=Int) o.1 2:=λq=>by rw[q]at k2; cases k2
 have n3:Ne (α:=Int) o.1 3:=λq=>by rw[q]at k2; cases k2
 have n4:=neI k4
 have n5:=neI k5
 have n6:=neI k6
 have n7:=neI k7
 have n8:=neI k8
 have n9:=neI k9
 have n10:=neI k10
 have fin:∀ r:Answer×zk,An e r/\r.2.2.2.1=e.2.2.1->An e r/\Kn o.1 e r:=λr h=>⟨h.1,Z,Z,Z,λ_=>h.2,Z⟩
 exact zf (λk=>za he λr hr=>ze (fin _ hr)) λ_=>ze (fin _ ⟨An.er he 1 [] (Y _),rfl⟩)⟩
instance (o:Op) (e:zk):Sp (kf o e) (Ei e/\Ov o) (λr=>An e r/\Kn o.1 e r):=⟨λh=>by
 unfold kf cW
 refine wk rfl (zf (λ_=>ze ⟨An.er h.1 14 [] (Y _),?_⟩) λ_=>za h λ⟨b,c⟩ hr=>xf (wk rfl (ze (ze hr))))
 exact⟨nz (a:=14) (qj),nz (a:=14) (qj),nz (a:=14) (qj),λ_=>rfl,λ_ _=>rfl⟩⟩
open T PL
theorem rg_of{a:Lf.Rat}(h:wf zm a):rg a:=⟨λx U=>by have:=h.2.1 x U; exact⟨this.1,Int.lt_of_le_of_lt this.2 (qj)⟩,λx U=>by have:=h.2.2.1 x U; exact⟨this.1,Int.lt_of_le_of_lt this.2 (qj)⟩⟩
theorem zmc(a:Lf.Rat):rl a<=bk zm a:=by
 have e:bk zm a=1+((XT (λ_=>1) a.2.1+1)+((XT (λ_=>1) a.2.2.1+1)+1)):=rfl
 rw[e,H5,H5]
 unfold rl
 omega
theorem Is{α:Type}(f:α->Nat){l:List α}{x:α}(h:x∈l):f x<=XT f l:=by
 induction l with
 | nil=>cases h
 | cons a r ih =>
  show _<=f a+XT f r
  rcases List.mem_cons.1 h with rfl | h
  ·omega
  ·have:=ih h; omega
theorem H4{α:Type}(f:α->Nat)(hf:∀ x,1<=f x):∀ l:List α,l.length<=XT f l
 | []=>zG _
 | a::r=>by have:=H4 f hf r; have:=hf a; show r.length+1<=f a+XT f r; omega
theorem Nv(e:Expr):1<=bkE e:=by cases e; unfold bkE; omega
theorem Eh:∀ (e:Expr),wfE e->bkE e<=KK->EW KK e
 | .mk k n s l,hw,J=>by
  unfold wfE at hw
  unfold bkE at J
  rw[Nx]at J
  have h1:=H4 (bk .expr) (λx=>Nv x) l
  refine .mk (rg_of ⟨trivial,hw.2.1.2.1,hw.2.1.2.2.1,trivial⟩) (by unfold rl; omega) (Z) (Z) λx U => ?_
  have X:=Is (bk .expr) U
  have h3:bk .expr x=bkE x:=rfl
  exact Eh x ((Rx l).1 hw.2.2.2.1 x U) (Z)
termination_by e=>zQ e
decreasing_by have:=zN U; simp; omega
theorem z0p:∀ (τ:Ty) (x:den τ),1<=bk τ x
 | .int _,_=>zG _
 | .bool,_=>zG _
 | .str,_=>Nat.le_add_left ..
 | .sl _,_=>Nat.le_add_left ..
 | .nil,_=>zG _
 | .cons a b,x=>zA (z0p a x.1) (Nat.le_add_right ..)
 | .expr,x=>Nv x
theorem bl{τ:Ty}(l:List (den τ)):l.length+1<=bk (.sl τ) l:=Nat.succ_le_succ (H4 _ (z0p τ) l)
theorem bm{τ:Ty}{l:List (den τ)}{x:den τ}(h:x∈l):bk τ x+1<=bk (.sl τ) l:=Nat.succ_le_succ (Is _ h)
theorem zbK(f:Form)(hw:wf qx f)(J:bk qx f<=1048576):FW KK f:=by
 have kk:KK=2000000:=rfl
 obtain⟨w1,w2,w3,w4,w5,w6,-⟩:=hw
 have e:bk qx f=bk (.sl qe) f.1+(bk (.sl qg) f.2.1+(bk (.sl xi) f.2.2.1+(bk (.sl qw) f.2.2.2.1+(bk (.sl xn) f.2.2.2.2.1+(bk (.sl xk) f.2.2.2.2.2.1+1))))):=rfl
 have l1:=bl (τ:=qe) f.1
 have l2:=bl (τ:=qg) f.2.1
 have l3:=bl (τ:=xi) f.2.2.1
 have l4:=bl (τ:=qw) f.2.2.2.1
 have l5:=bl (τ:=xn) f.2.2.2.2.1
 have l6:=bl (τ:=xk) f.2.2.2.2.2.1
 refine⟨⟨Z,λx U => ?_⟩,⟨Z,λx U => ?_⟩,⟨Z,λx U => ?_⟩,⟨Z,λx U => ?_⟩,⟨Z,λx U => ?_⟩,Z,λx U => ?_⟩
 ·have m:=bm (τ:=qe) U
  have q:bk qe x=(x.1.length+1)+(1+1):=rfl
  omega
 ·have m:=bm (τ:=qg) U
  have q:bk qg x=(x.1.length+1)+(bk zm x.2.1+1):=rfl
  have:=zmc x.2.1
  exact⟨Z,rg_of (w2 x U).2.1,Z⟩
 ·have m:=bm (τ:=xi) U
  have q:bk xi x=(x.1.length+1)+((x.2.1.length+1)+1):=rfl
  exact⟨Z,Z⟩
 ·have m:=bm (τ:=qw) U
  have q:bk qw x=(x.1.length+1)+(1+(1+(1+1))):=rfl
  omega
 ·have m:=bm (τ:=xn) U
  have q:bk xn x=(x.1.length+1)+(1+((x.2.2.1.length+1)+(bkE x.2.2.2.1+(bkE x.2.2.2.2.1+1)))):=rfl
  have w:=w5 x U
  exact⟨Z,Z,Eh _ w.2.2.2.1 (Z),Eh _ w.2.2.2.2.1 (Z)⟩
 ·have m:=bm (τ:=xk) U
  have q:bk xk x=(x.1.length+1)+(1+(1+(bkE x.2.2.2.1+(bkE x.2.2.2.2.1+1)))):=rfl
  have w:=w6 x U
  exact⟨Z,Eh _ w.2.2.2.1 (Z),Eh _ w.2.2.2.2.1 (Z)⟩
open T PL
instance (e:Expr) (n:Int):Sp (cE e n) (EW KK e /\ -1000000000<=n/\n<=1000000000) (λr=>r<=n/\min n 0-40000000<=r):=⟨λ⟨h,hn⟩=>by
 unfold cE
 refine sR (x:=(e,n)) (σ:=Expr×Int) (λ(e,n)=>EW KK e /\ -1000000000<=n/\n<=1000000000) (λ(e,_)=>zQ e) (λ(e,n) (r:Int)=>r<=n/\min n 0-40000000<=r) ?_ ?_ ⟨h,hn⟩
 ·intro g g' hg x
  unfold dN ow fj
  exact mono
 ·rintro⟨e,n⟩ ⟨he,h0,h1⟩ g hg
  cases he with
  | @mk kd q s L g1 g2 g3 g4 g5 =>
  have kk:KK=2000000:=rfl
  have r1:=(TC (a:=q)).1
  have r2:=(TC (a:=q)).2
  unfold dN ow
  simp only[Expr.kids,Expr.num,Expr.name]
  simp(disch:=omega) only[qv]
  refine xf (xv (ug (Q:=λr=>r<=n/\min n 0-40000000<=r) (λz:Int×Int=>0<=z.2/\z.2<=L.length/\z.1<=n/\min n 0-40000000<=z.1) (λz=>((L.length:Int)-z.2).toNat) ⟨W _,by show(0:Int)<=_; omega,by show n-3-_-_-_<=n; omega,by show _<=n-3-_-_-_; omega⟩ ?_) λr hr=>ze hr)
  rintro⟨b,i⟩ ⟨i0,i1,b0,b1⟩
  dsimp only at i0 i1 b0 b1
  unfold fj
  refine zf (λV => ?_) λV=>ze ⟨b0,b1⟩
  have V:=zF.1 V
  have d1:i<(L.length:Int):=uY V.1
  have d2:0<=b:=uY V.2
  have hw:ql (i+1)=i+1:=qv (Z) (Z)
  have hm:=xo (l:=L) (d:=zb .expr) i0 d1
  refine qq ⟨i0,d1⟩ (xf (xv (hg (nth L i (zb .expr),b) ⟨g5 _ hm,Z,Z⟩ (by have:=zN hm; simp; omega)) λr hr=>ze ?_))
  have hr:r<=b/\min b 0-40000000<=r:=hr
  rw[hw]
  exact⟨⟨by show 0<=i+1; omega,by show i+1<=_; omega,by show r<=n; omega,by show _<=r; omega⟩,by simp only; omega⟩⟩
abbrev z0b:Int := -1000000000
theorem M4{α:Type}(l:List α)(d:α)(B:l.length<=KK)(c0:Int)(hc:z0b<=c0/\c0<=600){oE:Int×Int->T ((Int×Int)⊕Int)}
  (step:∀ c i:Int,0<=i->i<l.length->0<=c->c<=600->nth l i d∈l->(oE (c,i)).wp λz=>∃ c',z=.inl (c',ql (i+1))/\c'<=c/\z0b<=c')
  (stop:∀ c i:Int,((decide (i<(l.length:Int)))&&(decide ((0:Int)<=c)))=false->(oE (c,i)).wp λz=>z=.inr c):(T.loop oE (c0,0)).wp λr=>r<=c0/\z0b<=r:=by
 have kk:KK=2000000:=rfl
 refine ug (λz:Int×Int=>0<=z.2/\z.2<=l.length/\z.1<=c0/\z0b<=z.1) (λz=>((l.length:Int)-z.2).toNat) ⟨W _,by show(0:Int)<=_; omega,W _,hc.1⟩ ?_
 rintro⟨c,i⟩ ⟨i0,i1,b0,b1⟩
 dsimp only at i0 i1 b0 b1
 cases V:(decide (i<(l.length:Int)))&&(decide ((0:Int)<=c))with
 | true =>
  have V:=zF.1 V
  have d1:i<(l.length:Int):=uY V.1
  have d2:0<=c:=uY V.2
  have hw:ql (i+1)=i+1:=qv (Z) (Z)
  refine xv (step c i i0 d1 d2 (Z) (xo i0 d1)) ?_
  rintro _ ⟨c',rfl,q1,q2⟩
  rw[hw]
  exact⟨⟨by show 0<=i+1; omega,by show i+1<=_; omega,by show c'<=_; omega,q2⟩,by simp only; omega⟩
 | false =>
  refine xv (stop c i V) ?_
  rintro _ rfl
  exact⟨b0,b1⟩
instance (f:Form):Sp (nM f) (FW KK f) (λr=>r=false->FW 8200 f):=⟨λh=>by
 have kk:KK=2000000:=rfl
 have lo:z0b = -1000000000:=rfl
 obtain⟨⟨n1,f1⟩,⟨n2,f2⟩,⟨n3,f3⟩,⟨n4,f4⟩,⟨n5,f5⟩,n6,f6⟩:=h
 unfold nM
 simp(disch:=omega) only[qv]
 generalize hS:(f.1.length:Int)+f.2.1.length+f.2.2.1.length+f.2.2.2.1.length+f.2.2.2.2.1.length+f.2.2.2.2.2.1.length=S
 refine xf (xv (M4 f.2.1 (zb qg) n2 _ ⟨Z,Z⟩ (λc i i0 i1 c0 c1 hm => ?_) λc i V => ?_) λc1 h1 => ?_)
 ·have m:=f2 _ hm
  have r1:=(TC (a:=(nth f.2.1 i (zb qg)).2.1)).1
  have r2:=(TC (a:=(nth f.2.1 i (zb qg)).2.1)).2
  have m1:=m.1
  have m2:=m.2.2
  unfold rW
  dsimp only
  simp(disch:=omega) only[qv]
  exact vy (by simp[i1,c0]) (qq ⟨i0,i1⟩ (qq ⟨i0,i1⟩ (qq ⟨i0,i1⟩ (ze ⟨_,rfl,Z,Z⟩))))
 ·exact wk V (ze rfl)
 refine xf (xv (M4 f.1 (zb qe) n1 c1 ⟨h1.2,Z⟩ (λc i i0 i1 c0 c1 hm => ?_) λc i V => ?_) λc2 X => ?_)
 ·have m:=f1 _ hm
  unfold rX
  dsimp only
  simp(disch:=omega) only[qv]
  exact vy (by simp[i1,c0]) (qq ⟨i0,i1⟩ (ze ⟨_,rfl,Z,Z⟩))
 ·exact wk V (ze rfl)
 refine xf (xv (M4 f.2.2.1 (zb xi) n3 c2 ⟨X.2,Z⟩ (λc i i0 i1 c0 c1 hm => ?_) λc i V => ?_) λc3 h3 => ?_)
 ·have m:=f3 _ hm
  have m1:=m.1
  have m2:=m.2
  unfold rY
  dsimp only
  simp(disch:=omega) only[qv]
  exact vy (by simp[i1,c0]) (qq ⟨i0,i1⟩ (qq ⟨i0,i1⟩ (ze ⟨_,rfl,Z,Z⟩)))
 ·exact wk V (ze rfl)
 refine xf (xv (M4 f.2.2.2.1 (zb qw) n4 c3 ⟨h3.2,Z⟩ (λc i i0 i1 c0 c1 hm => ?_) λc i V => ?_) λc4 h4 => ?_)
 ·have m:=f4 _ hm
  unfold rZ
  dsimp only
  simp(disch:=omega) only[qv]
  exact vy (by simp[i1,c0]) (qq ⟨i0,i1⟩ (ze ⟨_,rfl,Z,Z⟩))
 ·exact wk V (ze rfl)
 refine xf (xv (M4 f.2.2.2.2.1 (zb xn) n5 c4 ⟨h4.2,Z⟩ (λc i i0 i1 c0 c1 hm => ?_) λc i V => ?_) λc5 h5 => ?_)
 ·obtain⟨m1,m2,m3,m4⟩:=f5 _ hm
  unfold s6
  dsimp only
  simp(disch:=omega) only[qv]
  refine vy (by simp[i1,c0]) (qq ⟨i0,i1⟩ (qq ⟨i0,i1⟩ (qq ⟨i0,i1⟩ (qq ⟨i0,i1⟩ (za ⟨m3,Z,Z⟩ λx U=>za ⟨m4,Z,Z⟩ λy hy=>ze ⟨_,rfl,Z,Z⟩)))))
 ·exact wk V (ze rfl)
 refine xf (xv (M4 f.2.2.2.2.2.1 (zb xk) n6 c5 ⟨h5.2,Z⟩ (λc i i0 i1 c0 c1 hm => ?_) λc i V => ?_) λc6 h6=>ze λe => ?_)
 ·obtain⟨m1,m3,m4⟩:=f6 _ hm
  unfold s7
  dsimp only
  simp(disch:=omega) only[qv]
  refine vy (by simp[i1,c0]) (qq ⟨i0,i1⟩ (qq ⟨i0,i1⟩ (qq ⟨i0,i1⟩ (za ⟨m3,Z,Z⟩ λx U=>za ⟨m4,Z,Z⟩ λy hy=>ze ⟨_,rfl,Z,Z⟩))))
 ·exact wk V (ze rfl)
 have e:=hZ e
 exact⟨⟨Z,f1⟩,⟨Z,f2⟩,⟨Z,f3⟩,⟨Z,f4⟩,⟨Z,f5⟩,Z,f6⟩⟩
def okL(l:List Op)(n:Int):Prop:=∀ i:Int,0<=i->i<l.length->i<n->(nth l i (zb fc)).2.2.1.2.1.length<=3/\(nth l i (zb fc)).2.2.1.2.2.1.length<=3
instance (l:List Op):Sp (s9 l) (l.length<=KK) (λr=>r=false->okL l 25):=⟨λh=>by
 have kk:KK=2000000:=rfl
 unfold s9 WV
 refine xf (xv (P:=λz:Unit⊕Bool=>z.elim (λ_=>okL l 25) λb=>b=true) ?_ λz hz => ?_)
 ·refine ug (σ:=Int) (λi=>0<=i/\i<=l.length/\okL l i) (λi=>((l.length:Int)-i).toNat) ⟨Z,Z,λi _ _ _=>Z⟩ λi ⟨i0,i1,hi⟩ => ?_
  unfold tV
  dsimp only
  refine zf (λV => ?_) λV=>ze λj j0 j1 j2=>hi j j0 j1 ?_
  ·have V:=zF.1 V
   have d1:i<(l.length:Int):=uY V.1
   have hw:ql (i+1)=i+1:=qv (Z) (Z)
   refine zj ⟨⟨i0,d1⟩,λ_=>⟨⟨i0,d1⟩,λ_=>⟨i0,d1⟩⟩⟩ (zf (λ_=>ze rfl) λe=>ze ?_)
   rw[hw]
   simp only[Bool.or_eq_false_iff]at e
   have e1:=hZ e.2.1
   have e2:=hZ e.2.2
   refine⟨⟨Z,Z,λj j0 j1 j2 => ?_⟩,Z⟩
   by_cases q:j=i
   ·subst q; exact⟨Z,Z⟩
   ·exact hi j j0 j1 (Z)
  ·simp only[Bool.and_eq_false_iff]at V
   rcases V with V | V
   ·have:=hZ V; omega
   ·have:=hZ V; omega
 ·rcases z with z | z
  ·exact ze λ_=>hz
  ·have hz:z=true:=hz
   subst hz
   exact ze nofun⟩
open T PL
instance (f:Form):Sp (ep f) (FW 8200 f) (λr=>r.elim (λz=>z.2.1=0/\Ei z.2.2/\Ow f z.2.2.1) λz=>z.2≠0):=⟨λh=>by
 unfold ep
 refine za h λ⟨s,k⟩ _=>zf (λe=>ze (by simpa using e)) λ_=>xf (xv (zm7 f h) λa ⟨ha,ho⟩=>za ha λ⟨l,b,i,d,c,e,g,j⟩ hr=>zf (λq => ?_) λq => ?_)
 ·have J:b.length<=1:=hr.2
  exact zj (Z) (zj ⟨qj,by show(0:Int)<((b.length+1:Nat):Int); omega⟩ (zj ⟨rfl,by rw[KU]; show 0+0<_; omega⟩ (ze (by simpa using q))))
 ·obtain⟨hD,hn⟩:Dx a (d,c,l.1,e,g,j,())/\1<=a.2.2.2.1.length:=hr.1 (by simpa using q)
  have hO:Ow f a:=ho.resolve_left (by rintro rfl; exact absurd hn (qj))
  rw[db,db,db,db,db]
  exact z8 (z8 (z8 (z8 (z8 (za ⟨ha.1,qj,qj⟩ λm hm=>ze ⟨rfl,⟨hD,⟨Y _,nofun,nofun⟩,hm⟩,hO⟩)))))⟩
open T PL
theorem zfk{l:List Op}{n:Int}(h:okL l n)(hr:∀ o∈l,rg o.2.2.1){i:Int}(i0:0<=i)(i1:i<l.length)(i2:i<n):Ov (nth l i (zb fc)):=by
 have:=h i i0 i1 i2
 exact⟨hr _ (xo i0 i1),by unfold rl; omega⟩
theorem z1U(hk:jM.run=some true):(T.bind jM λh=>T.ret h).wp λr=>r=true:=xf (bB hk (ze rfl))
theorem z1Y(x:YM [qx,.sl fc])(hw:wfL [qx,.sl fc] x)(J:bkL [qx,.sl fc] x<=1048576):FW KK x.1/\List.length x.2.1<=KK/\∀ o∈x.2.1,rg o.2.2.1:=by
 have kk:KK=2000000:=rfl
 have e:bkL [qx,.sl fc] x=bk qx x.1+(bk (.sl fc) x.2.1+0):=rfl
 have:=bl (τ:=fc) x.2.1
 exact⟨zbK _ hw.1 (Z),Z,λo ho=>rg_of (hw.2.1 o ho).2.2.1⟩
instance (i:Int) (n:Nat):Decidable (xb i n):=inferInstanceAs (Decidable (_/\_))
instance (a b c d:Nat):Decidable (uT a b c d):=inferInstanceAs (Decidable (_/\_))
instance (a b c d:Nat):Decidable (zu a b c d):=inferInstanceAs (Decidable (_/\_/\_))
instance (a b:Int) (c:Nat):Decidable (jJ a b c):=inferInstanceAs (Decidable (_/\_/\_))
instance (a b c:Int) (d:Nat):Decidable (zmi a b c d):=inferInstanceAs (Decidable (_/\_/\_/\_))
instance (a b:Int) (c:Nat):Decidable (eY a b c):=inferInstanceAs (Decidable (_/\_/\_/\_))
instance (a b c d e f g:Nat):Decidable (ub a b c d e f g):=inferInstanceAs (Decidable (_/\_/\_/\_))
instance (a b c d e:Nat):Decidable (Xb a b c d e):=inferInstanceAs (Decidable (_/\_))
instance (n:Int):Decidable (wfI n):=inferInstanceAs (Decidable (_=true))
instance (y:Bool) (n:Int) (l:List Int):Decidable (z3g y n l):=inferInstanceAs (Decidable (_/\_/\_))
noncomputable def nx {σ ρ:Type} (r:σ->T (σ⊕ρ)):σ⊕ρ->Option ρ
 | .inl s=>(T.loop r s).run
 | .inr y=>some y
theorem zb4{σ ρ:Type}{r:σ->T (σ⊕ρ)}{s:σ}{z:σ⊕ρ}{x:ρ}(h:(r s).run=some z)(k:nx r z=some x):(T.loop r s).run=some x:=by
 cases z with
 | inl s'=>rw[Zm h]; exact k
 | inr y=>rw[fX h]; exact k
theorem nxL{σ ρ:Type}{r:σ->T (σ⊕ρ)}{s:σ}{x:ρ}(k:(T.loop r s).run=some x):nx r (.inl s)=some x:=k
theorem nxR{σ ρ:Type}{r:σ->T (σ⊕ρ)}{y:ρ}:nx r (.inr y)=some y:=rfl
theorem zaj{α β:Type}{t:T α}{f:α->T β}{a:α}{x:β}(h:t.run=some a)(k:(f a).run=some x):(t.bind f).run=some x:=(zq h f).trans k
theorem zi2{α:Type}{b:Bool}{t e:T α}{x:α}(h:b=true)(k:t.run=some x):(T.ite b t e).run=some x:=by subst h; exact k
theorem zi1{α:Type}{b:Bool}{t e:T α}{x:α}(h:b=false)(k:e.run=some x):(T.ite b t e).run=some x:=by subst h; exact k
theorem zio{α:Type}{p:Prop}{t:T α}{x:α}(h:p)(k:t.run=some x):(T.zl p t).run=some x:=(xe h t).trans k
theorem elL{α β γ:Type}{f:α->T γ}{g:β->T γ}{a:α}{x:γ}(h:(f a).run=some x):(zM f g (.inl a)).run=some x:=h
theorem elR{α β γ:Type}{f:α->T γ}{g:β->T γ}{a:β}{x:γ}(h:(g a).run=some x):(zM f g (.inr a)).run=some x:=h
theorem zc7{a:zo}(h:(decide (a.length<4294967281)&&a.all λb=>decide (b.toNat<128))=true):(strings_makeASCIISet a).run=some (mh a,true):=by
 simp only[zK,decide_eq_true_eq,List.all_eq_true]at h
 unfold strings_makeASCIISet
 rw[xe ⟨h.1,λj b J=>h.2 b (zO J)⟩,xz]
theorem evd{α:Type}{t:T α}{x y:α}(h:t.run=some x)(k:x=y):t.run=some y:=by rw[h,k]
theorem zca{e:Type}{a:List e}{n:Nat}(h:ub 0 0 0 0 0 a.length n):(T.zl (a=[]->∀ r,T.leads (.zl (ub 0 0 0 0 0 a.length n)<|.zl (0+a.length=0+a.length)<|.ret (zH 0 (I (0+(0+a.length)) a)):T _) r->T.leads (.ret ([]:List e):T _) r)<|.zl (ub 0 0 0 0 0 a.length n)<|.zl (0+a.length=0+a.length)<|.ret (zH 0 (I (0+(0+a.length)) a)):T (List e)).run=some a:=by
 have e0:zH 0 (I (0+(0+a.length)) a)=a:=qu
 rw[e0,xe (λe r h=>by rw[e]at h; exact h.2.2),xe h,xe rfl,xz]
theorem zcb{e:Type}{a:List e}{n:Nat}(h:ub 0 0 0 0 0 a.length n):(T.zl (a=[]->∀ r,T.leads (.zl (ub 0 0 0 0 0 a.length n)<|.zl (zu (0+a.length) 0 (0+a.length) a.length)<|.zl (0+a.length=a.length)<|.ret a:T _) r->T.leads (.zl (zu 0 0 0 0)<|.zl ((0:Nat)=0)<|.ret ([]:List e):T _) r)<|.zl (ub 0 0 0 0 0 a.length n)<|oM (0+a.length) a.length<|.ret a:T (List e)).run=some a:=by
 have e0:0+a.length=a.length:=Nat.zero_add _
 rw[xe (λe r h=>by rw[e]at h; exact⟨⟨rfl,rfl,rfl⟩,rfl,h.2.2.2⟩),xe h]
 show(T.zl _ (T.zl _ _)).run=_
 rw[xe ⟨e0,rfl,e0⟩,xe e0,xz]
theorem zfG(N:Nat){σ ρ:Type}{b:(σ->T ρ)->σ->T ρ}{x:σ}{y:ρ}(h:∀ k,(WM b (k+N) x).run=some y):(T.fix b x).run=some y:=by
 rw[yT,mF]
 exact⟨N,λm hm=>T.yT.1 (by have:=h (m-N); rwa [Nat.sub_add_cancel hm]at this)⟩
theorem znp{σ ρ:Type}{b:(σ->T ρ)->σ->T ρ}{m:Nat}{x:σ}{y:ρ}(h:(b (WM b m) x).run=some y):(WM b (m+1) x).run=some y:=h
set_option maxRecDepth 100000 in
set_option maxHeartbeats 20000000 in
theorem z7z:jM.run=some true:=by
 unfold jM
 apply evd
 ·repeat first
    | with_reducible exact xz _
    | with_reducible exact nxR
    | with_reducible apply nxL
    | with_reducible apply zaj
    | with_reducible apply zb4
    | (with_reducible apply zfG 6; intro k)
    | with_reducible apply znp
    | with_reducible apply elL
    | with_reducible apply elR
    | (with_reducible apply zio; · first | decide +kernel | (intro e r h; rw[e]at h; simpa[T.leads]using h))
    | with_reducible apply zi2 (by decide +kernel)
    | with_reducible apply zi1 (by decide +kernel)
    | with_reducible exact zc7 (by decide +kernel)
    | dsimp only
    | exact zca (by decide +kernel)
    | exact zcb (by decide +kernel)
    | apply zaj
    | (apply zio; · first | decide +kernel | (intro e r h; rw[e]at h; simpa[T.leads]using h))
    | apply zi2 (by decide +kernel)
    | apply zi1 (by decide +kernel)
    | apply zb4
    | (apply zfG 6; intro k)
    | exact xz _
 ·kernel_rfl
open T PL
theorem Tw(f:Form)(on:List Bool)(nm:zo)(hw:(f.1.length:Int)<=4611686018427387904) :
  (Zv f on nm).run=some (decide (0<=Vn (λs=>xw s.1 nm) 0 f.1)&&(decide (Vn (λs=>xw s.1 nm) 0 f.1<(on.length:Int))&&nth on (Vn (λs=>xw s.1 nm) 0 f.1) false)):=by
 have V:zb .bool=false:=rfl
 have key:=sd (r:=ct on nm f) (λi=>0<=i) (λi=>((f.1.length:Int)-i).toNat)
  (λi=>if Vn (λs:Switch=>xw s.1 nm) i (f.1.drop i.toNat) = -1 then .inl ()else .inr (decide (Vn (λs:Switch=>xw s.1 nm) i (f.1.drop i.toNat)<(on.length:Int))&&nth on (Vn (λs:Switch=>xw s.1 nm) i (f.1.drop i.toNat)) false)) (λi h => ?_) (s:=0) (W 0)
 ·have e:(tF on nm f 0).run=_:=key
  unfold Zv
  rw[zq e]
  have hg:=zd9 (λs:Switch=>xw s.1 nm) f.1 0 (W 0)
  simp only[Int.toNat_zero,List.drop_zero]
  split
  ·rename_i h; simp[h]
  ·rename_i h
   have:0<=Vn (λs:Switch=>xw s.1 nm) 0 f.1:=by rcases hg with hg | hg; exact absurd hg h; exact hg.1
   simp[this]
 ·by_cases hi:i<f.1.length
  ·rw[YP f.1 (zb qe) h hi]
   by_cases hp:xw (nth f.1 i (zb qe)).1 nm=true
   ·right
    have h1:¬ i = -1:=Z
    simp only[ct,J8,decide_eq_true hi,if_true]
    rw[vF _ h hi]
    simp only[J8,hp,if_true]
    rw[xe (λhh=>⟨h,uY hh⟩)]
    simp[Vn,hp,h1,V]
   ·left
    refine⟨i+1,?_,Z,Z,?_⟩
    ·simp(disch:=omega) [ct,hi,hp]
    ·simp[Vn,hp]
  ·right
   rw[EX _ hi]
   simp[ct,hi,Vn]
theorem KW(f:Form)(on:List Bool)(hp:(f.2.2.1.length:Int)<=1000000000000)(hw:(f.1.length:Int)<=4611686018427387904):(bV f on).run=some (f.2.2.1.map (QV f.1 on)):=by
 have key:(dr on f (0,[])).run=some (f.2.2.1.map (QV f.1 on)):=by
  refine BF f.2.2.1 (zb xi) (λb i=>(i,b)) (λb r=>(b.length:Int)+r.length<=1000000000000) (λr b=>b++r.map (QV f.1 on)) ?_ ?_ (by simpa using hp)
  ·intro b x xs i h0 hi U J
   simp only[List.length_cons]at J
   refine .inl ⟨b++[QV f.1 on x],?_,by simp; omega,qu⟩
   have hI:=Tw f on x.2.1 hw
   by_cases c1:xw x.2.1 []=true
   ·simp(disch:=omega) [jv,hi,U,QV,c1]
   ·simp(disch:=omega) [jv,hi,U,hI,QV,c1]
  ·intro b _
   simp[jv]
 simp[bV,key]
theorem zch(e:zk)(h:Dw e.2.1):(yn e).wp λr=>r=(e.2.1,e):=by
 obtain⟨h1,X,h3,h4,h5,h6,-⟩:=h
 unfold yn CP
 refine wk rfl (xf (za h1.1 ?_))
 rintro _ rfl
 refine za X ?_
 rintro _ rfl
 refine za h3.1 ?_
 rintro _ rfl
 refine za h4 ?_
 rintro _ rfl
 refine za h5.1 ?_
 rintro _ rfl
 refine za h6 ?_
 rintro _ rfl
 exact z4C (ze (ze (by simp only[db])))
theorem ze0(l:List Op)(f:Form)(i:Int)(r:List Bool)(e:zk)(d:wg)(hr:r.length<=10000):(kL l f i r (false,0,e,d)).wp λz=>z.2.1=e/\(z.1=true->true∈r):=by
 unfold kL
 refine ug (σ:=Bool×Int×zk×wg) (λz=>0<=z.2.1/\z.2.1<=r.length/\z.2.2.1=e/\(z.1=true->true∈r)) (λz=>((r.length:Int)-z.2.1).toNat) ⟨W _,by show(0:Int)<=_; omega,rfl,nofun⟩ ?_
 rintro⟨b,j,e',d'⟩ ⟨j0,j1,he,J⟩
 dsimp only at j0 j1 he J
 unfold kN
 refine zf (λV => ?_) λV=>ze ⟨he,J⟩
 have V:=uY V
 have hw:ql (j+1)=j+1:=qv (Z) (Z)
 rw[hw]
 refine zf (λq=>ze ?_) λq=>qq ⟨j0,V⟩ (ze ?_)
 ·exact⟨⟨by show 0<=j+1; omega,by show j+1<=_; omega,he,λ_=>J q⟩,by simp only; omega⟩
 ·exact⟨⟨by show 0<=j+1; omega,by show j+1<=_; omega,he,λk=>by have:=xo (l:=r) (d:=zb .bool) j0 V; have k:nth r j (zb .bool)=true:=k; rwa [k]at this⟩,by simp only; omega⟩
theorem z9G(hk:jM.run=some true)(f:Form)(l:List Op)(hf:FW KK f)(B:l.length<=KK)(hr:∀ o∈l,rg o.2.2.1):(y9 f l).run=some true:=by
 suffices h:(y9 f l).wp (λr=>r=true) by
  obtain⟨a,h1,X⟩:=T.mS.1 h
  rw[h1,X]
 have K:=z1U hk
 unfold y9
 refine xf (xv (P:=λr=>r=false->FW 8200 f/\okL l 25) (za hf λc hc=>zf (λ_=>ze nofun) λe=>za B λd V=>ze λq=>⟨hc e,V q⟩) λe he=>zf (λ_=>ze rfl) λe2 => ?_)
 obtain⟨hF,hO⟩:=he e2
 refine za hF λz hz => ?_
 rcases z with⟨m,n,g⟩ | ⟨p,k⟩
 ·obtain⟨hn,hE,hW⟩:=hz
  have hn:n=0:=hn
  subst hn
  refine wk rfl (xf (xv (P:=λz=>∃ d,z=.inl d) ?_ ?_))
  ·unfold gZ
   refine ug (λz:Int×zk=>0<=z.1/\z.1<=l.length/\Ei z.2/\Ow f z.2.1) (λz=>((l.length:Int)-z.1).toNat) ⟨W _,by show(0:Int)<=_; omega,hE,hW⟩ ?_
   rintro⟨i,d⟩ ⟨i0,i1,V,hw⟩
   dsimp only at i0 i1 V hw
   unfold kM
   refine zf (λhc => ?_) λ_=>ze ⟨d,rfl⟩
   have hc:=zF.1 hc
   have d1:i<(l.length:Int):=uY hc.1
   have d2:i<25:=uY hc.2
   have hw1:ql (i+1)=i+1:=qv (Z) (Z)
   refine qq ⟨i0,d1⟩ (za ⟨V,zfk hO hr i0 d1 d2⟩ λ⟨a,c⟩ ha => ?_)
   obtain⟨⟨h1,X,h3,h4⟩,-⟩:=ha
   have h1:Ei c:=h1
   have h3:c.1=d.1:=h3
   rw[<- h3]at hw
   have n2:=hF.2.2.1.1
   refine xf (xv (zch c h1.1.1) ?_)
   rintro _ rfl
   refine xf (bB (KW f c.2.1.2.1 (Z) (by have:=hF.1.1; omega)) ?_)
   have e1:f.2.2.1.map (QV f.1 c.2.1.2.1)=QU c.1 c.2.1.2.1:=(z9Q hw.1 hw.2.1 _).symm
   have e2:(QU c.1 c.2.1.2.1).length<=10000:=by rw[<- e1,List.length_map]; omega
   rw[e1]
   refine xf (xv (ze0 l f i _ c c.2.1 e2) ?_)
   rintro⟨q,c',d'⟩ ⟨rfl,hq⟩
   have fin:((Sum.inl (ql (i+1),c'):(Int×zk)⊕(zk⊕(Bool×zk))))=.inl (i+1,c'):=by rw[hw1]
   refine xf (xv (P:=λz:Bool×zk×wg=>z.1=false/\z.2.1=c') (zf (λhq2 => ?_) λ_=>ze ⟨rfl,rfl⟩) ?_)
   ·obtain⟨g0,g1,g2⟩:=h1.2.2.2 (hq hq2)
    dsimp only at g0 g1 g2
    have pg:(vP c')=T.ite false (T.ret 0) (T.ret c'.2.2.2.1):=rfl
    rw[pg]
    refine xf (wk rfl (ze (wk (decide_eq_false (Z)) (xf (wk rfl (ze (wk (decide_eq_false (Int.not_le.2 g1)) (xf (wk rfl (ze (qq ⟨g0,g1⟩ (ze ⟨?_,rfl⟩)))))))))))) 
    rw[g2]; rfl
   ·rintro⟨z1,z2,z3⟩ ⟨rfl,rfl⟩
    refine wk rfl ?_
    rw[fin]
    exact ze ⟨⟨by show 0<=i+1; omega,by show i+1<=_; omega,h1,hw⟩,by simp only; omega⟩
  ·rintro _ ⟨d,rfl⟩
   exact K
 ·exact vy (by simpa using hz) (vy rfl K)
theorem QS(x:YM [qx,.sl fc])(hw:wfL [qx,.sl fc] x)(J:bkL [qx,.sl fc] x<=1048576):(y9 (TL [qx,.sl fc] x).1 (TL [qx,.sl fc] x).2).run=some true:=z9G z7z x.1 x.2.1 (z1Y x hw J).1 (z1Y x hw J).2.1 (z1Y x hw J).2.2
end Go.AM.Lf
