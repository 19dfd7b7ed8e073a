/-
  The program's functions as trees in plain Lean, part 1: printed by a program of ours.
-/
import Derived.Test.YtgnfpdlhibjeeaaGreatDoorLf0
set_option linter.unusedVariables false
open Go.AM.T renaming bind -> zA, ret -> I, ite -> R, loop -> zJ
open Decidable renaming decide -> Y
open Sum renaming inr -> zE, inl -> zF, elim -> zI
open List renaming drop -> zG, take -> zH, length -> zK
open Int renaming toNat -> zL
open Nat renaming cast -> zM
noncomputable section
namespace Go.AM.Lf
def mB(m:qg)(p:Int):(Int×z7×(zr×zp×zr×qg×zp×Unit)×zx×z7×Unit×(qf×qi×xb×qp×qz×qt×Unit)×z7)->T ((Int×z7×(zr×zp×zr×qg×zp×Unit)×zx×z7×Unit×(qf×qi×xb×qp×qz×qt×Unit)×z7)⊕((z7×(zr×zp×zr×qg×zp×Unit)×zx×z7×Unit×(qf×qi×xb×qp×qz×qt×Unit)×z7)))
 | (f,b,a,c,d,q,h,e)=>let n:=(h.1,(h.2.1,(h.2.2.1,(h.2.2.2.1,(h.2.2.2.2.1,(h.2.2.2.2.2.1,())))))); let i:=nth m f (zb q8); let o:=(b,((a.1,(a.2.1,(a.2.2.1,(a.2.2.2.1,(a.2.2.2.2.1,()))))),(c,(d,((),(n,e))))));
 R (Y (f<p))
  (oI f m<|R (!i.1)
  (W b<|oC b<|W c<|W d<|oC c<|oC e<|oC d<|W e<|I (zF ((q9 (f+1)),o)))
  (oC c<|oC e<|oC d<|W c<|W e<|W d<|zA (kV f (i.2.2.1.1,(i.2.2.1.2.1,(i.2.2.1.2.2.1,()))) (bif i.2.1 then f else(-1)) n c e d) λ(g,j,k,l) =>
 W b<|oC b<|W j<|W l<|oC j<|oC k<|oC l<|W k<|I (zF ((q9 (f+1)),(b,((a.1,(a.2.1,(a.2.2.1,(a.2.2.2.1,(a.2.2.2.2.1,()))))),(j,(l,((),((g.1,(g.2.1,(g.2.2.1,(g.2.2.2.1,(g.2.2.2.2.1,(g.2.2.2.2.2.1,())))))),k))))))))))
  (W b<|oC b<|W c<|W d<|oC c<|oC e<|oC d<|W e<|I (zE o))
def Zj x2 x3 s:=zJ (mB x2 x3) s
def eX(c:Form)(a:(zr×zp×zr×qg×zp×Unit))(b:z7):T ((Int×z7×(qf×qi×xb×qp×qz×qt×Unit)×zx×z7×z7)⊕(zo×Int×z7)) :=
 W b<|zA (Xu c (a.1,(a.2.1,(a.2.2.1,((zG 0 (zH (0+b.length) b)),(a.2.2.2.1,(a.2.2.2.2.1,()))))))) λs =>
 R (!s)
  (W b<|I (zE ([],(1,b))))
  (zA (nH c a.1 a.2.1) λ(t,q,h,i,g) =>
 R ((h != 0)&&(!(xx q [])))
  (W b<|I (zE ([q],(h,b))))
  (R (h != 0)
  (W b<|I (zE ([],(h,b))))
  (oC g<|W b<|oC b<|W i<|W g<|oC i<|.zl (zu 0 0 0 0)<|oC g<|.zl (0=0)<|zA (Zi (g.length:Int) (0,(b,((a.1,(a.2.1,(a.2.2.1,(a.2.2.2.1,(a.2.2.2.2.1,()))))),(i,(g,((),((c.1,(c.2.1,(c.2.2.1,(c.2.2.2.1,(c.2.2.2.2.1,(c.2.2.2.2.2.1,())))))),[])))))))) λ(j,d,k,l,u,e,m) =>
 W j<|oC j<|W k<|W l<|oC k<|oC m<|oC l<|W m<|zA (Zj d.2.2.2.1 (d.2.2.2.1.length:Int) (0,(j,((d.1,(d.2.1,(d.2.2.1,(d.2.2.2.1,(d.2.2.2.2.1,()))))),(k,(l,((),((e.1,(e.2.1,(e.2.2.1,(e.2.2.2.1,(e.2.2.2.2.1,(e.2.2.2.2.2.1,())))))),m)))))))) λ(r,v,n,o,w,f,p) =>
 W r<|oC n<|oC p<|oC o<|W n<|W p<|W o<|I (zF (0,(r,((f.1,(f.2.1,(f.2.2.1,(f.2.2.2.1,(f.2.2.2.2.1,(f.2.2.2.2.2.1,())))))),(n,(p,o)))))))))
def gD(b:z7)(c:z7)(d:Int):Int->T (Int⊕(Unit⊕Bool))
 | a =>
 R (Y (a<d))
  (oI a b<|oI a c<|R ((nth b a (zb (.int .u32))) != (nth c a (zb (.int .u32))))
  (I (zE (zE false)))
  (I (zF (q9 (a+1)))))
  (I (zE (zF ())))
def eN s11 s21 x s:=zJ (gD s11 s21 x) s
def jD(a:z7)(b:z7):T Bool :=
 R ((a.length:Int) != (b.length:Int))
  (I false)
  (zA (eN a b (a.length:Int) 0)<|zI (λ_ =>
 I true)
  (λc =>
 I c))
def XX(e:Rat)(f:Rat):T Bool :=
 zA (vH e) λa =>
 zA (vH f) λb =>
 R (a.1==b.1)
  (zA (jD a.2.1 b.2.1) λc =>
 R c
  (zA (jD a.2.2.1 b.2.2.1) λd =>
 I d)
  (I false))
  (I false)
def nB(a:Term)(b:Term):T Bool :=
 R (a.1==b.1)
  (zA (XX a.2.1 b.2.1) λc =>
 I c)
  (I false)
def uY(b:wC)(e:Term->Term->T Bool)(c:wC)(f:Int):Int->T (Int⊕(Unit⊕Bool))
 | a =>
 R (Y (a<f))
  (oI a c<|oI a b<|zA (e (nth c a (zb qk)) (nth b a (zb qk))) λd =>
 R (!d)
  (I (zE (zE false)))
  (I (zF (q9 (a+1)))))
  (I (zE (zF ())))
def yI s21 eq x x1 s:=zJ (uY s21 eq x x1) s
def jC(a:wC)(b:wC)(d:Term->Term->T Bool):T Bool :=
 R ((a.length:Int) != (b.length:Int))
  (I false)
  (zA (yI b d a (a.length:Int) 0)<|zI (λ_ =>
 I true)
  (λc =>
 I c))
def Uq(a:vM)(b:vM):T Bool :=
 R (a.1==b.1)
  (zA (XX a.2.2.1 b.2.2.1) λc =>
 R c
  (zA (jC a.2.1 b.2.1 (λz0 z1=>nB z0 z1)) λd =>
 I d)
  (I false))
  (I false)
def oz(G:Form)(κ':Int):(Int×z7×(zr×zp×zr×qg×zp×Unit)×wH×(qf×qi×xb×qp×qz×qt×Unit)×zx×z7×z7×(qf×qi×xb×qp×qz×qt×Unit)×zx×z7×z7)->T ((Int×z7×(zr×zp×zr×qg×zp×Unit)×wH×(qf×qi×xb×qp×qz×qt×Unit)×zx×z7×z7×(qf×qi×xb×qp×qz×qt×Unit)×zx×z7×z7)⊕((z7×(zr×zp×zr×qg×zp×Unit)×wH×(qf×qi×xb×qp×qz×qt×Unit)×zx×z7×z7×(qf×qi×xb×qp×qz×qt×Unit)×zx×z7×z7)))
 | (i,f,u,D,l,a,g,c,m,b,h,d)=>let x:=(f,((u.1,(u.2.1,(u.2.2.1,(u.2.2.2.1,(u.2.2.2.2.1,()))))),(D,((l.1,(l.2.1,(l.2.2.1,(l.2.2.2.1,(l.2.2.2.2.1,(l.2.2.2.2.2.1,())))))),(a,(g,(c,((m.1,(m.2.1,(m.2.2.1,(m.2.2.2.1,(m.2.2.2.2.1,(m.2.2.2.2.2.1,())))))),(b,(h,d))))))))));
 R (Y (i<κ'))
  (W c<|zA (uM (zG 0 (zH (0+c.length) c)) i) λv =>
 W d<|zA (uM (zG 0 (zH (0+d.length) d)) i) λw =>
 zA (R (Y (v<0))
  (W f<|oC f<|oC a<|oC g<|oC c<|W a<|W g<|W c<|oC b<|oC h<|oC d<|W b<|W h<|W d<|I (true,x))
  (R (Y (w<0))
  (W f<|oC f<|oC a<|oC g<|oC c<|W a<|W g<|W c<|oC b<|oC h<|oC d<|W b<|W h<|W d<|I (true,x))
  (oI v a<|.zl (j6 a.length a.length (0+(zL v)) a.length)<|oI w b<|.zl (j6 b.length b.length (0+(zL w)) b.length)<|zA (Uq (wB a (0+(zL v)) (zb zq)) (wB b (0+(zL w)) (zb zq))) λA =>
 W f<|oC f<|oC a<|oC g<|oC c<|W a<|W g<|W c<|oC b<|oC h<|oC d<|W b<|W h<|W d<|I ((!A),x))):T ((Bool×z7×(zr×zp×zr×qg×zp×Unit)×wH×(qf×qi×xb×qp×qz×qt×Unit)×zx×z7×z7×(qf×qi×xb×qp×qz×qt×Unit)×zx×z7×z7))) λ(hl,e,n,C,j,o,p,q,k,r,s,t)=>let y:=List.set e (0+(zL i)) (-1); let z:=((n.1,(n.2.1,(n.2.2.1,(n.2.2.2.1,(n.2.2.2.2.1,()))))),(C,((j.1,(j.2.1,(j.2.2.1,(j.2.2.2.1,(j.2.2.2.2.1,(j.2.2.2.2.2.1,())))))),(o,(p,(q,((k.1,(k.2.1,(k.2.2.1,(k.2.2.2.1,(k.2.2.2.2.1,(k.2.2.2.2.2.1,())))))),(r,(s,t)))))))));
 R hl
  (oI i e<|.zl (j6 e.length e.length (0+(zL i)) e.length)<|.zl (e.length=y.length)<|.zl (zu e.length 0 e.length y.length)<|oC o<|oC p<|oC q<|W o<|W p<|W q<|oC r<|oC s<|oC t<|W r<|W s<|W t<|I (zF ((q9 (i+1)),(y,z))))
  (W e<|oC e<|oC o<|oC p<|oC q<|W o<|W p<|W q<|oC r<|oC s<|oC t<|W r<|W s<|W t<|I (zF ((q9 (i+1)),(e,z)))))
  (W f<|oC f<|oC a<|oC g<|oC c<|W a<|W g<|W c<|oC b<|oC h<|oC d<|W b<|W h<|W d<|I (zE x))
def QX f1 x1 s:=zJ (oz f1 x1) s
def iH(e:Form)(L:wH)(ae:Unit)(f:zr)(g:zp)(h:zr)(a:z7)(i:qg)(j:zp):T ((zr×Unit)×zo×Int×zr×zp×z7×qg×zp) :=
 let x:=((zG 0 (zH (0+f.length) f)),((zG 0 (zH (0+g.length) g)),((zG 0 (zH (0+h.length) h)),((zG 0 (zH (0+i.length) i)),((zG 0 (zH (0+j.length) j)),())))));  zA (dE e L)<|zI (λ(y,b,k,l,m) =>
 R (y != 0)
  (.zl (zu 0 0 0 0)<|.zl (zu 0 0 0 0)<|.zl (zu 0 0 0 0)<|.zl (zu 0 0 0 0)<|oZ<|.zl (0=0)<|.zl (0=0)<|.zl (0=0)<|.zl (0=0)<|I (([],()),([],(y,([],([],([],([],[]))))))))
  (W f<|W g<|W h<|W i<|W j<|oC a<|W a<|zA (eX e x a)<|zI (λ(z,n,c,o,p,q) =>
 R (z != 0)
  (.zl (zu 0 0 0 0)<|.zl (zu 0 0 0 0)<|.zl (zu 0 0 0 0)<|.zl (zu 0 0 0 0)<|oZ<|.zl (0=0)<|.zl (0=0)<|.zl (0=0)<|.zl (0=0)<|I (([],()),([],(z,([],([],([],([],[]))))))))
  (W n<|.zl (zu a.length 0 a.length n.length)<|oC k<|oC l<|oC m<|W k<|W l<|W m<|oC o<|oC p<|oC q<|W o<|W p<|W q<|zA (QX e (a.length:Int) (0,(n,(x,((([]:List Rat),(([]:List Bool),(([]:List Rat),(([]:List Int),(([]:List ve),(([]:List Bool),())))))),((b.1,(b.2.1,(b.2.2.1,(b.2.2.2.1,(b.2.2.2.2.1,(b.2.2.2.2.2.1,())))))),(k,(l,(m,((c.1,(c.2.1,(c.2.2.1,(c.2.2.2.1,(c.2.2.2.2.1,(c.2.2.2.2.2.1,())))))),(o,(p,q)))))))))))) λ(r,d,M,N,κ,P,zD,S,hx,hd,oE) =>
 W r<|zA (ez e (d.1,(d.2.1,(d.2.2.1,((zG 0 (zH (0+r.length) r)),(d.2.2.2.1,(d.2.2.2.2.1,()))))))) λ(κ',G,H,s,t,u,v,w) =>
 oC s<|oC t<|oC u<|oC v<|oC w<|W s<|W t<|W u<|W v<|W w<|I ((κ'.1,()),(G,(H,(s,(t,(u,(v,w)))))))))
  (λ(zC,A,h2) =>
 R (A != 0)
  (.zl (zu 0 0 0 0)<|.zl (zu 0 0 0 0)<|.zl (zu 0 0 0 0)<|.zl (zu 0 0 0 0)<|oZ<|.zl (0=0)<|.zl (0=0)<|.zl (0=0)<|.zl (0=0)<|I (([],()),(zC,(A,([],([],([],([],[]))))))))
  (.fail))))
  (λ(hb,hl) =>
 R (hl != 0)
  (.zl (zu 0 0 0 0)<|.zl (zu 0 0 0 0)<|.zl (zu 0 0 0 0)<|.zl (zu 0 0 0 0)<|oZ<|.zl (0=0)<|.zl (0=0)<|.zl (0=0)<|.zl (0=0)<|I (([],()),(hb,(hl,([],([],([],([],[]))))))))
  (W f<|W g<|W h<|W i<|W j<|oC a<|W a<|zA (eX e x a)<|zI (λ(C,zB,z6,aa,ab,ac) =>
 R (C != 0)
  (.zl (zu 0 0 0 0)<|.zl (zu 0 0 0 0)<|.zl (zu 0 0 0 0)<|.zl (zu 0 0 0 0)<|oZ<|.zl (0=0)<|.zl (0=0)<|.zl (0=0)<|.zl (0=0)<|I (([],()),([],(C,([],([],([],([],[]))))))))
  (.fail))
  (λ(K,D,ad) =>
 R (D != 0)
  (.zl (zu 0 0 0 0)<|.zl (zu 0 0 0 0)<|.zl (zu 0 0 0 0)<|.zl (zu 0 0 0 0)<|oZ<|.zl (0=0)<|.zl (0=0)<|.zl (0=0)<|.zl (0=0)<|I (([],()),(K,(D,([],([],([],([],[]))))))))
  (.fail))))
def pC(m:Form)(n:wH)(p:zn)(q:Rat):T (wH×zo×Int) :=
 zA (vL m.2.1 (λr=>gK r p)) λb =>
 zA (Xr m n) λs =>
 R (!s)
  (I ((([]:List Rat),(([]:List Bool),(([]:List Rat),(([]:List Int),(([]:List ve),(([]:List Bool),())))))),([],1)))
  (R (Y (b<0))
  (I ((([]:List Rat),(([]:List Bool),(([]:List Rat),(([]:List Int),(([]:List ve),(([]:List Bool),())))))),([],5)))
  (zA (cz q) λt =>
 R (!t)
  (I ((([]:List Rat),(([]:List Bool),(([]:List Rat),(([]:List Int),(([]:List ve),(([]:List Bool),())))))),([p],8)))
  (zA (mz n) λ(y,a,c,d,e,f,g) =>
 zA (vH q) λu=>let o:=List.set a (0+(zL b)) u;
 oI b a<|.zl (j6 a.length a.length (0+(zL b)) a.length)<|.zl (zu a.length 0 a.length o.length)<|oC c<|oC d<|oC e<|oC f<|oC g<|.zl (a.length=o.length)<|W c<|W d<|W e<|W f<|W g<|zA (iH m n () o c d e f g) λ(v,w,x,h,i,j,k,l) =>
 W h<|W i<|W j<|W k<|W l<|I (((zG 0 (zH (0+h.length) h)),((zG 0 (zH (0+i.length) i)),(v.1,((zG 0 (zH (0+j.length) j)),((zG 0 (zH (0+k.length) k)),((zG 0 (zH (0+l.length) l)),())))))),(w,x)))))
def yK(a:Switch)(b:zn):T Bool :=
 I (xx a.1 b)
def ng(m:Form)(n:wH)(u:zn)(v:Bool):T (wH×zo×Int) :=
 zA (wb m.1 (λp=>yK p u)) λb =>
 zA (Xr m n) λq =>
 R (!q)
  (I ((([]:List Rat),(([]:List Bool),(([]:List Rat),(([]:List Int),(([]:List ve),(([]:List Bool),())))))),([],1)))
  (R (Y (b<0))
  (I ((([]:List Rat),(([]:List Bool),(([]:List Rat),(([]:List Int),(([]:List ve),(([]:List Bool),())))))),([],5)))
  (zA (mz n) λ(w,c,a,d,e,f,g)=>let o:=List.set a (0+(zL b)) v;
 oI b a<|.zl (j6 a.length a.length (0+(zL b)) a.length)<|oC c<|.zl (zu a.length 0 a.length o.length)<|oC d<|oC e<|oC f<|oC g<|W c<|.zl (a.length=o.length)<|W d<|W e<|W f<|W g<|zA (iH m n () c o d e f g) λ(r,s,t,h,i,j,k,l) =>
 W h<|W i<|W j<|W k<|W l<|I (((zG 0 (zH (0+h.length) h)),((zG 0 (zH (0+i.length) i)),(r.1,((zG 0 (zH (0+j.length) j)),((zG 0 (zH (0+k.length) k)),((zG 0 (zH (0+l.length) l)),())))))),(s,t))))
def jS(c:Int)(b:Int)(a:zk):T (Answer×zk) :=
 R (b != 0)
  (I ((b,(([]:List zn),([],()))),a))
  (I (((0:Int),(([]:List zn),([],()))),((a.1.1,(a.1.2.1,(a.1.2.2.1,(a.1.2.2.2.1,(a.1.2.2.2.2.1,(a.1.2.2.2.2.2.1,())))))),((a.2.1.1,(a.2.1.2.1,(a.2.1.2.2.1,(a.2.1.2.2.2.1,(a.2.1.2.2.2.2.1,(a.2.1.2.2.2.2.2.1,())))))),((a.2.2.1.1,(a.2.2.1.2.1,())),(c,(a.2.2.2.2.1,())))))))
def jg(f:Form->zp->Int->T (Int×Bool))(a:zk):T (Answer×zk) :=
 zA (f (a.1.1,(a.1.2.1,(a.1.2.2.1,(a.1.2.2.2.1,(a.1.2.2.2.2.1,(a.1.2.2.2.2.2.1,())))))) a.2.1.2.1 a.2.2.2.1) λ(b,c) =>
 R (!c)
  (I (((13:Int),(([]:List zn),([],()))),a))
  (zA (jS b 0 a) λ(d,e) =>
 I (d,e))
def eF(a:ct)(b:zn):T Bool :=
 I (xx a.1 b)
def WI(c:Form)(e:zp)(f:zn):T (Int×Int) :=
 zA (uZ c.2.2.1 (λd=>eF d f)) λa =>
 R (Y (a<0))
  (I ((-1),5))
  (zA (kB c e) λb =>
 oI a b<|R (!(nth b a (zb .bool)))
  (I ((-1),12))
  (I (a,0)))
def wS(a:zo):T zo :=
 let b:=0+a.length;  .zl (a=[]->∀ r,T.leads (.zl (vZ 0 0 0 0 0 a.length 16)<|.zl (b=b)<|I (zG 0 (zH (0+b) a)):T _) r->T.leads (I []:T _) r)<|.zl (vZ 0 0 0 0 0 a.length 16)<|.zl (b=b)<|I (zG 0 (zH (0+b) a))
def Zq(b:zo)(f:zo)(g:zn):T (zo×zo×zn) :=
 let c:=q9 ((b.length:Int)-1);  .zl (jv 0 c b.length)<|zA (wT (je (e:=.str) 0 c b)) λd =>
 zA (wT f) λa =>
 oA a 16<|oI c b<|W d<|.zl ((a.length+1)=(a.length+1))<|I ((zG 0 (zH (0+d.length) d)),((zG 0 (zH (0+(a.length+1)) (a++[g]))),(nth b c (zb .str))))
def Zp(a:fW)(g:zn):T (fW×zn×Bool) :=
 R ((a.1.length:Int)==0)
  (zA (wS a.1) λb =>
 zA (wS a.2.1) λc =>
 I ((b,(c,())),([],false)))
  (zA (Zq a.1 a.2.1 g) λ(d,e,f) =>
 I ((d,(e,())),(f,true)))
def uA(a:Bool):T (Unit⊕Unit) :=
 R (!a)
  (I (zE ()))
  (I (zF ()))
def bE(a:gS):T ((zn×gS)⊕(Unit×gS)) :=
 zA (strings_Cut a.1 [10]) λ(b,c,d) =>
 zA (uA d)<|zI (λ_ =>
 I (zF (b,(c,()))))
  (λe =>
 I (zE (e,a)))
def wQ(h:zn)(i:gS):T ((zo×gS)⊕(Unit×gS)) :=
 zA (bE i)<|zI (λ(c,b) =>
 zA (strings_Split c [32]) λa =>
 oI 0 a<|zA (uA (xx (nth a 0 (zb .str)) h))<|zI (λ_ =>
 .zl (jv 1 (a.length:Int) a.length)<|I (zF ((je (e:=.str) 1 (a.length:Int) a),b)))
  (λd =>
 I (zE (d,b))))
  (λ(f,g) =>
 I (zE (f,g)))
def dI(d:zn):T (Rat⊕Unit) :=
 zA (rb d) λ(a,b) =>
 zA (uA (b==0))<|zI (λ_ =>
 I (zF a))
  (λc =>
 I (zE c))
def gQ(d:zo)(f:Int):(Int×zr)->T ((Int×zr)⊕(zr⊕(Unit×zr)))
 | (b,a) =>
 R (Y (b<f))
  (oI b d<|zA (dI (nth d b (zb .str)))<|zI (λc =>
 oA a 56<|oM (a.length+1) (a++[c]).length<|I (zF ((q9 (b+1)),(a++[c]))))
  (λe =>
 W a<|I (zE (zE (e,a)))))
  (oC a<|W a<|I (zE (zF a)))
def iK x x1 s:=zJ (gQ x x1) s
def uQ(b:zo)(e:Unit):T (zr⊕Unit) :=
 oZ<|zA (iK b (b.length:Int) (0,[]))<|zI (λa =>
 oC a<|W a<|I (zF a))
  (λ(c,d) =>
 I (zE c))
def ni(a:zn):T (Bool⊕Unit) :=
 R (xx a [48])
  (zA (uA true)<|zI (λ_ =>
 I (zF (xx a [49])))
  (λb =>
 I (zE b)))
  (zA (uA (xx a [49]))<|zI (λ_ =>
 I (zF (xx a [49])))
  (λc =>
 I (zE c)))
def gR(d:zo)(f:Int):(Int×zp)->T ((Int×zp)⊕(zp⊕(Unit×zp)))
 | (b,a) =>
 R (Y (b<f))
  (oI b d<|zA (ni (nth d b (zb .str)))<|zI (λc =>
 oA a 1<|oM (a.length+1) (a++[c]).length<|I (zF ((q9 (b+1)),(a++[c]))))
  (λe =>
 W a<|I (zE (zE (e,a)))))
  (oC a<|W a<|I (zE (zF a)))
def iL x x1 s:=zJ (gR x x1) s
def uR(b:zo)(e:Unit):T (zp⊕Unit) :=
 oZ<|zA (iL b (b.length:Int) (0,[]))<|zI (λa =>
 oC a<|W a<|I (zF a))
  (λ(c,d) =>
 I (zE c))
def dgV(s:zn):Nat:=s.foldl (λn b=>n*10+(b.toNat-48)) 0
def strconv_Atoi(s:zn):T Int:=.zl ((s≠[]/\s.length<=18)/\∀ b∈s,48<=b.toNat/\b.toNat<=57) (I (dgV s:Int))
def nh(a:zn):T (Int⊕Unit) :=
 zA (R (!(xx a []))
  (R (Y ((a.length:Int)<=18))
  (zA (cH a [48,49,50,51,52,53,54,55,56,57]) λb =>
 zA (uA (xx b []))<|zI (λ_ =>
 I (zF ()))
  (λc =>
 I (zE c)))
  (zA (uA false)<|zI (λ_ =>
 I (zF ()))
  (λd =>
 I (zE d))))
  (zA (uA false)<|zI (λ_ =>
 I (zF ()))
  (λe =>
 I (zE e))):T (Unit⊕Unit))<|zI (λ_ =>
 zA (strconv_Atoi a) λf =>
 zA (uA true)<|zI (λ_ =>
 I (zF f))
  (λg =>
 I (zE g)))
  (λh =>
 I (zE h))
def nj(a:zn):T (Int⊕Unit) :=
 R (xx a [45])
  (I (zF (-1)))
  (zA (nh a)<|zI (λb =>
 I (zF b))
  (λc =>
 I (zE c)))
def bB(d:zo)(f:Int):(Int×z7)->T ((Int×z7)⊕(z7⊕(Unit×z7)))
 | (b,a) =>
 R (Y (b<f))
  (oI b d<|zA (nj (nth d b (zb .str)))<|zI (λc =>
 oA a 8<|oM (a.length+1) (a++[c]).length<|I (zF ((q9 (b+1)),(a++[c]))))
  (λe =>
 W a<|I (zE (zE (e,a)))))
  (oC a<|W a<|I (zE (zF a)))
def lX x x1 s:=zJ (bB x x1) s
def y9(b:zo)(e:Unit):T (z7⊕Unit) :=
 oZ<|zA (lX b (b.length:Int) (0,[]))<|zI (λa =>
 oC a<|W a<|I (zF a))
  (λ(c,d) =>
 I (zE c))
def kg(a:zn)(b:zn):T Bool :=
 .zl (((Y ((b.length:Int)<=(a.length:Int)))=true)->(jv (q9 ((a.length:Int)-(b.length:Int))) (a.length:Int) a.length))<|I ((Y ((b.length:Int)<=(a.length:Int)))&&(xx (iv (q9 ((a.length:Int)-(b.length:Int))) (a.length:Int) a) b))
def ke(a:zn)(b:zn):T (zn×Bool) :=
 zA (kg a b) λc =>
 R (!c)
  (I (a,false))
  (.zl (jv 0 (q9 ((a.length:Int)-(b.length:Int))) a.length)<|I ((iv 0 (q9 ((a.length:Int)-(b.length:Int))) a),true))
def strings_CutSuffix(c:zn)(d:zn):T (zn×Bool) :=
 zA (ke c d) λ(a,b) =>
 I (a,b)
def nk(c:zn):T (ve⊕Unit) :=
 R (xx c [45])
  (zA (gw 0) λa =>
 I (zF (false,(false,((a.1,(a.2.1,(a.2.2.1,()))),())))))
  (zA (strings_CutSuffix c [33]) λ(d,e) =>
 zA (dI d)<|zI (λb =>
 I (zF (true,(e,((b.1,(b.2.1,(b.2.2.1,()))),())))))
  (λf =>
 I (zE f)))
def yF(d:zo)(f:Int):(Int×qg)->T ((Int×qg)⊕(qg⊕(Unit×qg)))
 | (b,a) =>
 R (Y (b<f))
  (oI b d<|zA (nk (nth d b (zb .str)))<|zI (λc =>
 oA a 64<|oM (a.length+1) (a++[c]).length<|I (zF ((q9 (b+1)),(a++[c]))))
  (λe =>
 W a<|I (zE (zE (e,a)))))
  (oC a<|W a<|I (zE (zF a)))
def eY x x1 s:=zJ (yF x x1) s
def jy(b:zo)(e:Unit):T (qg⊕Unit) :=
 oZ<|zA (eY b (b.length:Int) (0,[]))<|zI (λa =>
 oC a<|W a<|I (zF a))
  (λ(c,d) =>
 I (zE c))
def iJ(a:Int):T Int :=
 R true
  (I a)
  (.fail)
def wD(b:Unit)(a:Int):T Int :=
 R false
  (I a)
  (R true
  (I 2)
  (.fail))
def pE(g:zn):T (Unit×Int×zr×zp×zr×z7×qg×zp) :=
 zA (wQ [112,97,114,97,109,115] (g,()))<|zI (λ(k,l) =>
 zA (uQ k ())<|zI (λa=>let h:=(a,([],([],([],([],[])))));
 zA (wQ [111,110] l)<|zI (λ(m,n) =>
 zA (uR m ())<|zI (λb=>let i:=(a,(b,([],([],([],[])))));
 zA (wQ [118,97,108,115] n)<|zI (λ(o,p) =>
 zA (uQ o ())<|zI (λc=>let j:=(a,(b,(c,([],([],[])))));
 zA (wQ [111,117,116,115] p)<|zI (λ(q,r) =>
 zA (y9 q ())<|zI (λd =>
 zA (wQ [112,105,110,115] r)<|zI (λ(s,t) =>
 zA (jy s ())<|zI (λe =>
 zA (wQ [102,105,108,108,101,100] t)<|zI (λ(u,aa) =>
 zA (uR u ())<|zI (λf =>
 oW a b c d e f<|zA (cr ((zG 0 (zH (0+a.length) a)),((zG 0 (zH (0+b.length) b)),((zG 0 (zH (0+c.length) c)),((zG 0 (zH (0+d.length) d)),((zG 0 (zH (0+e.length) e)),((zG 0 (zH (0+f.length) f)),()))))))) λv =>
 zA (uA (xx v g))<|zI (λ_ =>
 zA (iJ 0) λw =>
 oY a b c d e f<|I ((),(w,(a,(b,(c,(d,(e,f))))))))
  (λx =>
 zA (wD x 0) λy =>
 oY a b c d e f<|I ((),(y,(a,(b,(c,(d,(e,f)))))))))
  (λz =>
 zA (wD z 0) λA =>
 oC a<|oC b<|oC c<|oC d<|oC e<|.zl (zu 0 0 0 0)<|W a<|W b<|W c<|W d<|W e<|.zl (0=0)<|I ((),(A,(a,(b,(c,(d,(e,[])))))))))
  (λ(hl,ab) =>
 zA (wD hl 0) λC =>
 oC a<|oC b<|oC c<|oC d<|oC e<|.zl (zu 0 0 0 0)<|W a<|W b<|W c<|W d<|W e<|.zl (0=0)<|I ((),(C,(a,(b,(c,(d,(e,[])))))))))
  (λD =>
 zA (wD D 0) λκ' =>
 oC a<|oC b<|oC c<|oC d<|.zl (zu 0 0 0 0)<|.zl (zu 0 0 0 0)<|W a<|W b<|W c<|W d<|.zl (0=0)<|.zl (0=0)<|I ((),(κ',(a,(b,(c,(d,([],[])))))))))
  (λ(G,ac) =>
 zA (wD G 0) λH =>
 oC a<|oC b<|oC c<|oC d<|.zl (zu 0 0 0 0)<|.zl (zu 0 0 0 0)<|W a<|W b<|W c<|W d<|.zl (0=0)<|.zl (0=0)<|I ((),(H,(a,(b,(c,(d,([],[])))))))))
  (λzC =>
 zA (wD zC 0) λhb =>
 oC a<|oC b<|oC c<|.zl (zu 0 0 0 0)<|.zl (zu 0 0 0 0)<|.zl (zu 0 0 0 0)<|W a<|W b<|W c<|.zl (0=0)<|.zl (0=0)<|.zl (0=0)<|I ((),(hb,j))))
  (λ(K,ad) =>
 zA (wD K 0) λL =>
 oC a<|oC b<|oC c<|.zl (zu 0 0 0 0)<|.zl (zu 0 0 0 0)<|.zl (zu 0 0 0 0)<|W a<|W b<|W c<|.zl (0=0)<|.zl (0=0)<|.zl (0=0)<|I ((),(L,j))))
  (λM =>
 zA (wD M 0) λN =>
 oC a<|oC b<|.zl (zu 0 0 0 0)<|.zl (zu 0 0 0 0)<|.zl (zu 0 0 0 0)<|.zl (zu 0 0 0 0)<|W a<|W b<|.zl (0=0)<|.zl (0=0)<|.zl (0=0)<|.zl (0=0)<|I ((),(N,i))))
  (λ(κ,ae) =>
 zA (wD κ 0) λP =>
 oC a<|oC b<|.zl (zu 0 0 0 0)<|.zl (zu 0 0 0 0)<|.zl (zu 0 0 0 0)<|.zl (zu 0 0 0 0)<|W a<|W b<|.zl (0=0)<|.zl (0=0)<|.zl (0=0)<|.zl (0=0)<|I ((),(P,i))))
  (λzD =>
 zA (wD zD 0) λS =>
 oC a<|.zl (zu 0 0 0 0)<|.zl (zu 0 0 0 0)<|.zl (zu 0 0 0 0)<|.zl (zu 0 0 0 0)<|.zl (zu 0 0 0 0)<|W a<|.zl (0=0)<|.zl (0=0)<|.zl (0=0)<|.zl (0=0)<|.zl (0=0)<|I ((),(S,h))))
  (λ(hx,af) =>
 zA (wD hx 0) λhd =>
 oC a<|.zl (zu 0 0 0 0)<|.zl (zu 0 0 0 0)<|.zl (zu 0 0 0 0)<|.zl (zu 0 0 0 0)<|.zl (zu 0 0 0 0)<|W a<|.zl (0=0)<|.zl (0=0)<|.zl (0=0)<|.zl (0=0)<|.zl (0=0)<|I ((),(hd,h))))
  (λoE =>
 zA (wD oE 0) λh2 =>
 .zl (zu 0 0 0 0)<|.zl (zu 0 0 0 0)<|.zl (zu 0 0 0 0)<|.zl (zu 0 0 0 0)<|.zl (zu 0 0 0 0)<|oZ<|.zl (0=0)<|.zl (0=0)<|.zl (0=0)<|.zl (0=0)<|.zl (0=0)<|I ((),(h2,([],([],([],([],([],[])))))))))
  (λ(zB,ag) =>
 zA (wD zB 0) λz6 =>
 .zl (zu 0 0 0 0)<|.zl (zu 0 0 0 0)<|.zl (zu 0 0 0 0)<|.zl (zu 0 0 0 0)<|.zl (zu 0 0 0 0)<|oZ<|.zl (0=0)<|.zl (0=0)<|.zl (0=0)<|.zl (0=0)<|.zl (0=0)<|I ((),(z6,([],([],([],([],([],[]))))))))
def tw(j:Form)(k:zn):T (wH×Int) :=
 zA (pE k) λ(l,g,a,b,c,d,e,f)=>let h:=((zG 0 (zH (0+a.length) a)),((zG 0 (zH (0+b.length) b)),((zG 0 (zH (0+c.length) c)),((zG 0 (zH (0+d.length) d)),((zG 0 (zH (0+e.length) e)),((zG 0 (zH (0+f.length) f)),()))))));
 R (g != 0)
  (I ((([]:List Rat),(([]:List Bool),(([]:List Rat),(([]:List Int),(([]:List ve),(([]:List Bool),())))))),g))
  (oW a b c d e f<|zA (Xr j h) λi =>
 R (!i)
  (I ((([]:List Rat),(([]:List Bool),(([]:List Rat),(([]:List Int),(([]:List ve),(([]:List Bool),())))))),1))
  (oW a b c d e f<|I (h,0)))
def uT(j:fW->zn->T (fW×zn×Bool))(a:zk):T (Answer×zk) :=
 let c:=(a.1.1,(a.1.2.1,(a.1.2.2.1,(a.1.2.2.2.1,(a.1.2.2.2.2.1,(a.1.2.2.2.2.2.1,()))))));  zA (cr (a.2.1.1,(a.2.1.2.1,(a.2.1.2.2.1,(a.2.1.2.2.2.1,(a.2.1.2.2.2.2.1,(a.2.1.2.2.2.2.2.1,()))))))) λf =>
 zA (j (a.2.2.1.1,(a.2.2.1.2.1,())) f) λ(d,g,h) =>
 R (!h)
  (I (((13:Int),(([]:List zn),([],()))),a))
  (zA (tw c g) λ(b,e) =>
 R (e != 0)
  (I ((e,(([]:List zn),([],()))),a))
  (zA (Zx c b.2.1 a.2.2.2.1) λi =>
 I (((0:Int),(([]:List zn),([],()))),(c,((b.1,(b.2.1,(b.2.2.1,(b.2.2.2.1,(b.2.2.2.2.1,(b.2.2.2.2.2.1,())))))),((d.1,(d.2.1,())),(i,(a.2.2.2.2.1,()))))))))
def Zo(a:fW)(g:zn):T (fW×zn×Bool) :=
 R ((a.2.1.length:Int)==0)
  (zA (wS a.1) λb =>
 zA (wS a.2.1) λc =>
 I ((b,(c,())),([],false)))
  (zA (Zq a.2.1 a.1 g) λ(d,e,f) =>
 I ((e,(d,())),(f,true)))
def Ur(d:zn)(a:wj)(g:zr):T (Rat×Int) :=
 zA (wE a.1 d) λb =>
 R (Y (0<=b))
  (zA (ml g b) λe =>
 I (e,0))
  (zA (wE a.2.1 d) λc =>
 R (Y (c<0))
  (I ((false,(([]:List Int),(([]:List Int),()))),5))
  (zA (ml a.2.2.1 c) λf =>
 I (f,0)))
def Jm(c:Rat)(d:Rat):T Rat :=
 zA (Qt d) λa =>
 zA (pO c a) λb =>
 I b
def yl(h:AM.Expr->wj->zr->T (Rat×Int))(a:AM.Expr)(d:wj)(e:zr):T (Rat×Int) :=
 R ((Expr.kind a)==1)
  (zA (vH (Expr.num a)) λi =>
 I (i,0))
  (R ((Expr.kind a)==2)
  (zA (Ur (Expr.name a) d e) λ(j,k) =>
 I (j,k))
  (oI 0 (Expr.kids a)<|zA (h (nth (Expr.kids a) 0 (zb .expr)) d e) λ(b,f) =>
 R (f != 0)
  (I ((false,(([]:List Int),(([]:List Int),()))),f))
  (R ((Expr.kind a)==7)
  (zA (Qt b) λl =>
 I (l,0))
  (oI 1 (Expr.kids a)<|zA (h (nth (Expr.kids a) 1 (zb .expr)) d e) λ(c,g) =>
 R (g != 0)
  (I ((false,(([]:List Int),(([]:List Int),()))),g))
  (R ((Expr.kind a)==3)
  (zA (pO b c) λm =>
 I (m,0))
  (R ((Expr.kind a)==4)
  (zA (Jm b c) λn =>
 I (n,0))
  (R ((Expr.kind a)==5)
  (zA (pP b c) λo =>
 I (o,0))
  (zA (tL b c) λ(p,q) =>
 R (!q)
  (I ((false,(([]:List Int),(([]:List Int),()))),7))
  (I (p,0))))))))))
def ZQ(e:AM.Expr)(v:wj)(at_:zr):T (Rat×Int):=T.fix (λF x=>yl (λy0 y1 y2=>F (y0,y1,y2)) x.1 x.2.1 x.2.2) (e,v,at_)
def Zb(a:AM.Expr)(e:wj)(f:zr):T (Rat×Int) :=
 zA (iS a) λb =>
 R (!b)
  (I ((false,(([]:List Int),(([]:List Int),()))),5))
  (zA (ZQ a e f) λ(c,d) =>
 I (c,d))
def YK(b:Rat)(c:Rat):T Int :=
 zA (Jm b c) λa =>
 R a.1
  (I (-1))
  (R (Y (0<(a.2.1.length:Int)))
  (I 1)
  (I 0))
def pQ(a:Check)(c:wj)(d:zr):T Bool :=
 zA (Zb a.2.2.2.1 c d) λ(e,f) =>
 zA (Zb a.2.2.2.2.1 c d) λ(g,h) =>
 R ((f != 0)||(h != 0))
  (I true)
  (zA (YK e g) λb =>
 R (a.2.2.1==0)
  (I (b != 0))
  (R (a.2.2.1==1)
  (I (Y (0<=b)))
  (I (Y (0<b)))))
def lE(i:Form)(d:wH)(f:Int)(j:zp)(k:Int)(l:Int)(g:qp)(h:Int):(Int×wj×zo)->T ((Int×wj×zo)⊕((wj×zo)))
 | (b,e,a)=>let c:=nth g b (zb qq);
 R (Y (b<h))
  (oI b g<|.zl (((c.2.1==f)=true)->((c.2.2.1=true)->(((Y ((d.2.2.2.2.2.1.length:Int)<=b))=false)->(xe b d.2.2.2.2.2.1.length))))<|R ((c.2.1==f)&&(c.2.2.1&&((Y ((d.2.2.2.2.2.1.length:Int)<=b))||(!(nth d.2.2.2.2.2.1 b (zb .bool))))))
  (oA a 16<|oM (a.length+1) (a++([c.1]:List zn)).length<|I (zF ((q9 (b+1)),(e,(a++([c.1]:List zn))))))
  (oC a<|W a<|I (zF ((q9 (b+1)),(e,a)))))
  (oC a<|W a<|I (zE (e,a)))
def lB f2 d2 i x3 x4 x5 x6 x7 s:=zJ (lE f2 d2 i x3 x4 x5 x6 x7) s
def lF(n:Form)(k:wH)(l:Int)(o:zp)(p:Int)(q:Int)(h:qt)(m:Int):(Int×wj×zo)->T ((Int×wj×zo)⊕((wj×zo)))
 | (c,d,a)=>let e:=nth h c (zb xi);
 R (Y (c<m))
  (oI c h<|zA (R (e.2.1==l)
  (zA (pQ e d k.2.2.1) λi =>
 oC a<|W a<|I (i,(d,(a,e))))
  (oC a<|W a<|I (false,(d,(a,e)))):T ((Bool×wj×zo×Check))) λ(j,f,b,g) =>
 R j
  (oA b 16<|oM (b.length+1) (b++([g.1]:List zn)).length<|I (zF ((q9 (c+1)),(f,(b++([g.1]:List zn))))))
  (oC b<|W b<|I (zF ((q9 (c+1)),(f,b)))))
  (oC a<|W a<|I (zE (d,a)))
def lC f3 d3 i1 x9 x10 x11 x12 x13 s:=zJ (lF f3 d3 i1 x9 x10 x11 x12 x13) s
def lD(c:Form)(i:wH)(d:zp)(h:Int):(Int×wj×zo)->T ((Int×wj×zo)⊕((wj×zo)))
 | (a,g,b) =>
 R (Y (a<h))
  (oI a d<|R (!(nth d a (zb .bool)))
  (oC b<|W b<|I (zF ((q9 (a+1)),(g,b))))
  (oC b<|W b<|zA (lB c i a d h a c.2.2.2.1 (c.2.2.2.1.length:Int) (0,(g,b))) λ(j,e) =>
 oC e<|W e<|zA (lC c i a d h a c.2.2.2.2.2.1 (c.2.2.2.2.2.1.length:Int) (0,(j,e))) λ(k,f) =>
 oC f<|W f<|I (zF ((q9 (a+1)),(k,f)))))
  (oC b<|W b<|I (zE (g,b)))
def tM f1 d1 x x1 s:=zJ (lD f1 d1 x x1) s
def lA(b:Form)(c:wH):T zo :=
 zA (s7 b c.1) λe =>
 zA (kB b c.2.1) λd =>
 oZ<|zA (tM b c d (d.length:Int) (0,(e,[]))) λ(f,a) =>
 W a<|I (zG 0 (zH (0+a.length) a))
def Qw(g:wH)(d:zp)(h:qp)(m:Int):(Int×qi)->T ((Int×qi)⊕qi)
 | (b,a)=>let c:=nth h b (zb qq);
 R (Y (b<m))
  (oI b h<|.zl (((Y (c.2.1<(0:Int)))=false)->(((Y ((d.length:Int)<=c.2.1))=false)->(xe c.2.1 d.length)))<|R ((Y (c.2.1<(0:Int)))||((Y ((d.length:Int)<=c.2.1))||(!(nth d c.2.1 (zb .bool)))))
  (oC a<|W a<|I (zF ((q9 (b+1)),a)))
  (zA (gw 0) λj =>
 zA (R (Y (b<(g.2.2.1.length:Int)))
  (oI b g.2.2.1<|zA (vH (nth g.2.2.1 b (zb zm))) λk =>
 oC a<|W a<|I (a,(c,k)))
  (oC a<|W a<|I (a,(c,j))):T ((qi×Field×Rat))) λ(e,l,f)=>let i:=e++([(l.1,((f.1,(f.2.1,(f.2.2.1,()))),()))]:List Param);
 oA e 72<|oM (e.length+1) i.length<|I (zF ((q9 (b+1)),i))))
  (oC a<|W a<|I (zE a))
def Jo d1 on1 x x1 s:=zJ (Qw d1 on1 x x1) s
def WM(b:Form)(c:wH):T qi :=
 zA (kB b c.2.1) λd =>
 oZ<|zA (Jo c d b.2.2.2.1 (b.2.2.2.1.length:Int) (0,[])) λa =>
 W a<|I (zG 0 (zH (0+a.length) a))
def mR(f:qi)(g:Int):(Int×Unit×z7)->T ((Int×Unit×z7)⊕((Unit×z7)))
 | (c,j,b)=>let a:=nth f c (zb qe);
 R (Y (c<g))
  (oI c f<|oK a.1 [32]<|zA (gJ (a.2.1.1,(a.2.1.2.1,(a.2.1.2.2.1,())))) λd =>
 oK (cat a.1 [32]) d<|oK (cat (cat a.1 [32]) d) [10]<|oC b<|W b<|zA (xr (cat (cat (cat a.1 [32]) d) [10]) () b) λ(h,i,e) =>
 oC e<|W e<|I (zF ((q9 (c+1)),((),e))))
  (oC b<|W b<|I (zE ((),b)))
def ZA x x1 s:=zJ (mR x x1) s
def nw(b:qi):T zn :=
 oZ<|zA (ZA b (b.length:Int) (0,((),[]))) λ(d,a) =>
 oC a<|W a<|zA (rE () a) λ(c,e) =>
 I c
def kW(a:zk):T (Answer×zk) :=
 let b:=(a.1.1,(a.1.2.1,(a.1.2.2.1,(a.1.2.2.2.1,(a.1.2.2.2.2.1,(a.1.2.2.2.2.2.1,())))))); let c:=(a.2.1.1,(a.2.1.2.1,(a.2.1.2.2.1,(a.2.1.2.2.2.1,(a.2.1.2.2.2.2.1,(a.2.1.2.2.2.2.2.1,()))))));  zA (lA b c) λd =>
 R (Y (0<(d.length:Int)))
  (I (((15:Int),(d,([],()))),a))
  (zA (WM b c) λe =>
 zA (nw e) λf =>
 I (((0:Int),(([]:List zn),(f,()))),(b,(c,((a.2.2.1.1,(a.2.2.1.2.1,())),(a.2.2.2.1,(true,())))))))
def gT(b:Op)(a:zk):T (Answer×zk) :=
 let d:=(a.2.1.1,(a.2.1.2.1,(a.2.1.2.2.1,(a.2.1.2.2.2.1,(a.2.1.2.2.2.2.1,(a.2.1.2.2.2.2.2.1,())))))); let c:=(a.1.1,(a.1.2.1,(a.1.2.2.1,(a.1.2.2.2.1,(a.1.2.2.2.2.1,(a.1.2.2.2.2.2.1,()))))));  R (b.1==1)
  (zA (UB c d b.2.1 b.2.2.1) λ(e,f,g) =>
 zA (vy e f g a) λ(h,i) =>
 I (h,i))
  (R (bif (b.1==2)then(b.1==2)else(b.1==3))
  (zA (Q1 c d b.2.1 (b.1==2)) λ(j,k,l) =>
 zA (vy j k l a) λ(m,n) =>
 I (m,n))
  (R (b.1==4)
  (zA (pC c d b.2.1 b.2.2.1) λ(o,p,q) =>
 zA (vy o p q a) λ(r,s) =>
 I (r,s))
  (R (b.1==5)
  (zA (ng c d b.2.1 b.2.2.2.1) λ(t,u,v) =>
 zA (vy t u v a) λ(w,x) =>
 I (w,x))
  (R (b.1==6)
  (zA (jg (λz0 z1 z2=>rq z0 z1 z2) a) λ(y,z) =>
 I (y,z))
  (R (b.1==7)
  (zA (jg (λz0 z1 z2=>rm z0 z1 z2) a) λ(A,hl) =>
 I (A,hl))
  (R (b.1==8)
  (zA (WI c a.2.1.2.1 b.2.1) λ(C,D) =>
 zA (jS C D a) λ(κ',G) =>
 I (κ',G))
  (R (b.1==9)
  (zA (uT (λz0 z1=>Zp z0 z1) a) λ(H,zC) =>
 I (H,zC))
  (R (b.1==10)
  (zA (uT (λz0 z1=>Zo z0 z1) a) λ(hb,K) =>
 I (hb,K))
  (R (b.1==11)
  (zA (kW a) λ(L,M) =>
 I (L,M))
  (I (((1:Int),(([]:List zn),([],()))),a)))))))))))
def cY(a:zk)(b:Answer)(c:zk):T (zk×Answer×zk) :=
 R false
  (I (a,(((1:Int),(([]:List zn),([],()))),a)))
  (I (a,(b,c)))
def jb(f:Op)(a:zk):T (Answer×zk) :=
 R false
  (I (((1:Int),(([]:List zn),([],()))),a))
  (R a.2.2.2.2.1
  (I (((14:Int),(([]:List zn),([],()))),a))
  (zA (gT f a) λ(b,c) =>
 zA (cY a b c) λ(g,d,e) =>
 I (d,e)))
def Oc(a:wH):T wH :=
 zA (ua a.1) λb =>
 zA (vQ a.2.1) λc =>
 zA (ua a.2.2.1) λd =>
 zA (ub a.2.2.2.1) λe =>
 zA (uG a.2.2.2.2.1) λf =>
 zA (vQ a.2.2.2.2.2.1) λg =>
 oW b c d e f g<|I ((zG 0 (zH (0+b.length) b)),((zG 0 (zH (0+c.length) c)),((zG 0 (zH (0+d.length) d)),((zG 0 (zH (0+e.length) e)),((zG 0 (zH (0+f.length) f)),((zG 0 (zH (0+g.length) g)),()))))))
def eQ(a:zk):T (wH×zk) :=
 R false
  (I ((([]:List Rat),(([]:List Bool),(([]:List Rat),(([]:List Int),(([]:List ve),(([]:List Bool),())))))),a))
  (zA (Oc (a.2.1.1,(a.2.1.2.1,(a.2.1.2.2.1,(a.2.1.2.2.2.1,(a.2.1.2.2.2.2.1,(a.2.1.2.2.2.2.2.1,()))))))) λb =>
 I (b,a))
def Vk(b:z7)(c:z7):Int->T (Int⊕(Unit⊕Bool))
 | a =>
 R (Y (a<(b.length:Int)))
  (oI a b<|oI a c<|R ((nth b a (zb (.int .u32))) != (nth c a (zb (.int .u32))))
  (I (zE (zE false)))
  (I (zF (q9 (a+1)))))
  (I (zE (zF ())))
def Bo a1 b1 s:=zJ (Vk a1 b1) s
def U4(a:z7)(b:z7):T Bool :=
 R ((a.length:Int) != (b.length:Int))
  (I false)
  (zA (Bo a b 0)<|zI (λ_ =>
 I true)
  (λc =>
 I c))
def ZC(e:Rat)(f:Rat):T Bool :=
 zA (ZB e) λa =>
 zA (ZB f) λb =>
 R (a.1==b.1)
  (zA (U4 a.2.1 b.2.1) λc =>
 R c
  (zA (U4 a.2.2.1 b.2.2.1) λd =>
 I d)
  (I false))
  (I false)
def dJ(a:Op):T Answer :=
 R true
  (I ((1:Int),(([]:List zn),([],()))))
  (.fail)
def cZ  : T wH :=
 R true
  (I (([]:List Rat),(([]:List Bool),(([]:List Rat),(([]:List Int),(([]:List ve),(([]:List Bool),())))))))
  (.fail)
def yO  : T Bool :=
 zA (cB (([]:List Switch),(([]:List Param),(([([112],([],()))]:List ct),(([([97],((0:Int),(false,((0:Int),()))))]:List Field),(([]:List cf),(([]:List Check),())))))))<|zI (λ(o,e,f) =>
 R ((e != 0)||false)
  (I false)
  (zA (fg 3) λa =>
 zA (jb ((1:Int),([97],((a.1,(a.2.1,(a.2.2.1,()))),(false,())))) f) λ(g,h) =>
 zA (eQ h) λ(b,p) =>
 R (g.1==0)
  (R ((b.2.2.1.length:Int)==1)
  (oI 0 b.2.2.1<|zA (fg 3) λi =>
 zA (ZC (nth b.2.2.1 0 (zb zm)) i) λj =>
 I j)
  (I false))
  (I false)))
  (λ(q,k) =>
 R ((k != 0)||true)
  (I false)
  (zA (fg 3) λc =>
 zA (dJ ((1:Int),([97],((c.1,(c.2.1,(c.2.2.1,()))),(false,()))))) λl =>
 zA (cZ) λd =>
 R (l.1==0)
  (R ((d.2.2.1.length:Int)==1)
  (oI 0 d.2.2.1<|zA (fg 3) λm =>
 zA (ZC (nth d.2.2.1 0 (zb zm)) m) λn =>
 I n)
  (I false))
  (I false)))
def cW(e:AM.Expr->Int->T Int)(c:AM.Expr):(Int×Int)->T ((Int×Int)⊕Int)
 | (b,a) =>
 R ((Y (a<((Expr.kids c).length:Int)))&&(Y (0<=b)))
  (oI a (Expr.kids c)<|zA (e (nth (Expr.kids c) a (zb .expr)) b) λd =>
 I (zF (d,(q9 (a+1)))))
  (I (zE b))
def fh oL e1 s:=zJ (cW oL e1) s
def cI(c:AM.Expr->Int->T Int)(a:AM.Expr)(d:Int):T Int :=
 zA (fh c a ((q9 ((q9 ((q9 ((q9 (d-3))-((Expr.name a).length:Int)))-(q9 (8*(zM (zK (Expr.num a).2.1):Int)))))-(q9 (8*(zM (zK (Expr.num a).2.2.1):Int))))),0)) λb =>
 I b
def yf(e:AM.Expr)(left:Int):T Int:=T.fix (λF x=>cI (λy0 y1=>F (y0,y1)) x.1 x.2) (e,left)
def lP(b:Form):(Int×Int)->T ((Int×Int)⊕Int)
 | (c,a) =>
 R ((Y (a<(b.2.1.length:Int)))&&(Y (0<=c)))
  (oI a b.2.1<|oI a b.2.1<|oI a b.2.1<|I (zF ((q9 ((q9 ((q9 (c-(q9 (8*(zM (zK (nth b.2.1 a (zb qe)).2.1.2.1):Int)))))-(q9 (8*(zM (zK (nth b.2.1 a (zb qe)).2.1.2.2.1):Int)))))-(zM (zK (nth b.2.1 a (zb qe)).1):Int))),(q9 (a+1)))))
  (I (zE c))
def QD f1 s:=zJ (lP f1) s
def lQ(c:Form):(Int×Int)->T ((Int×Int)⊕Int)
 | (b,a) =>
 R ((Y (a<(c.1.length:Int)))&&(Y (0<=b)))
  (oI a c.1<|I (zF ((q9 (b-(zM (zK (nth c.1 a (zb ql)).1):Int))),(q9 (a+1)))))
  (I (zE b))
def QE f2 s:=zJ (lQ f2) s
def lR(b:Form):(Int×Int)->T ((Int×Int)⊕Int)
 | (c,a) =>
 R ((Y (a<(b.2.2.1.length:Int)))&&(Y (0<=c)))
  (oI a b.2.2.1<|oI a b.2.2.1<|I (zF ((q9 ((q9 (c-(zM (zK (nth b.2.2.1 a (zb xk)).1):Int)))-(zM (zK (nth b.2.2.1 a (zb xk)).2.1):Int))),(q9 (a+1)))))
  (I (zE c))
def QF f3 s:=zJ (lR f3) s
def lS(c:Form):(Int×Int)->T ((Int×Int)⊕Int)
 | (b,a) =>
 R ((Y (a<(c.2.2.2.1.length:Int)))&&(Y (0<=b)))
  (oI a c.2.2.2.1<|I (zF ((q9 (b-(zM (zK (nth c.2.2.2.1 a (zb qq)).1):Int))),(q9 (a+1)))))
  (I (zE b))
def QG f4 s:=zJ (lS f4) s
def lT(b:Form):(Int×Int)->T ((Int×Int)⊕Int)
 | (d,a)=>let c:=nth b.2.2.2.2.1 a (zb xl);
 R ((Y (a<(b.2.2.2.2.1.length:Int)))&&(Y (0<=d)))
  (oI a b.2.2.2.2.1<|oI a b.2.2.2.2.1<|oI a b.2.2.2.2.1<|oI a b.2.2.2.2.1<|zA (yf c.2.2.2.1 (q9 ((q9 (d-(c.1.length:Int)))-(c.2.2.1.length:Int)))) λe =>
 zA (yf c.2.2.2.2.1 e) λf =>
 I (zF (f,(q9 (a+1)))))
  (I (zE d))
def QH f5 s:=zJ (lT f5) s
def lU(b:Form):(Int×Int)->T ((Int×Int)⊕Int)
 | (c,a)=>let d:=nth b.2.2.2.2.2.1 a (zb xi);
 R ((Y (a<(b.2.2.2.2.2.1.length:Int)))&&(Y (0<=c)))
  (oI a b.2.2.2.2.2.1<|oI a b.2.2.2.2.2.1<|oI a b.2.2.2.2.2.1<|zA (yf d.2.2.2.1 (q9 (c-(d.1.length:Int)))) λe =>
 zA (yf d.2.2.2.2.1 e) λf =>
 I (zF (f,(q9 (a+1)))))
  (I (zE c))
def QI f6 s:=zJ (lU f6) s
def rA(a:Form):T Bool :=
 zA (QD a ((q9 (600-(q9 (20*(q9 ((q9 ((q9 ((q9 ((q9 ((a.1.length:Int)+(a.2.1.length:Int)))+(a.2.2.1.length:Int)))+(a.2.2.2.1.length:Int)))+(a.2.2.2.2.1.length:Int)))+(a.2.2.2.2.2.1.length:Int))))))),0)) λb =>
 zA (QE a (b,0)) λc =>
 zA (QF a (c,0)) λd =>
 zA (QG a (d,0)) λe =>
 zA (QH a (e,0)) λf =>
 zA (QI a (f,0)) λg =>
 I (Y (g<0))
def o9(b:ET):Int->T (Int⊕(Unit⊕Bool))
 | a=>let c:=nth b a (zb mU);
 R ((Y (a<(b.length:Int)))&&(Y (a<25)))
  (.zl ((xe a b.length)/\(((Y (60<(c.2.1.length:Int)))=false)->((xe a b.length)/\(((Y (3<(c.2.2.1.2.1.length:Int)))=false)->(xe a b.length)))))<|R ((Y (60<(c.2.1.length:Int)))||((Y (3<(c.2.2.1.2.1.length:Int)))||(Y (3<(c.2.2.1.2.2.1.length:Int)))))
  (I (zE (zE true)))
  (I (zF (q9 (a+1)))))
  (I (zE (zF ())))
def tW l1 s:=zJ (o9 l1) s
def ZH(b:ET):T Bool :=
 zA (tW b 0)<|zI (λ_ =>
 I false)
  (λa =>
 I a)
def o8(d:Form):T (zk⊕Unit) :=
 zA (cB d)<|zI (λ(e,a,b) =>
 R (a != 0)
  (I (zE ()))
  (I (zF b)))
  (λ(f,c) =>
 R (c != 0)
  (I (zE ()))
  (I (zE ())))
def dH(b:zn):T zn :=
 zA (strconv_Itoa (b.length:Int)) λa =>
 oK a [10]<|oK (cat a [10]) b<|I (cat (cat a [10]) b)
def iI(d:zo)(e:Int):(zn×Int)->T ((zn×Int)⊕zn)
 | (b,a) =>
 R (Y (a<e))
  (oI a d<|zA (dH (nth d a (zb .str))) λc =>
 oK b c<|I (zF ((cat b c),(q9 (a+1)))))
  (I (zE b))
def pD x x1 s:=zJ (iI x x1) s
def fS(a:zn)(c:zo):T zn :=
 oK a [32]<|zA (strconv_Itoa (c.length:Int)) λb =>
 oK (cat a [32]) b<|oK (cat (cat a [32]) b) [10]<|zA (pD c (c.length:Int) ((cat (cat (cat a [32]) b) [10]),0)) λd =>
 I d
def rX(a:Xv):T zn :=
 zA (dH a.1) λb =>
 zA (fS [112,97,115,116] a.2.1.1) λc =>
 oK b c<|zA (fS [102,117,116,117,114,101] a.2.1.2.1) λd=>let g:=cat (cat (cat b c) d) [112,97,103,101,32];
 oK (cat b c) d<|oK (cat (cat b c) d) [112,97,103,101,32]<|zA (strconv_Itoa a.2.2.1) λe=>let h:=cat (cat g e) [10,115,101,110,116,32];
 oK g e<|oK (cat g e) [10,115,101,110,116,32]<|zA (cP a.2.2.2.1) λf =>
 oK h f<|oK (cat h f) [10]<|I (cat (cat h f) [10])
def vN(a:zk):T zn :=
 R false
  (I [])
  (zA (cr a.2.1) λb =>
 zA (rX (b,((a.2.2.1.1,(a.2.2.1.2.1,())),(a.2.2.2.1,(a.2.2.2.2.1,()))))) λc =>
 I c)
def pX(c:zn)(b:Form):Int->T (Int⊕(Unit⊕Bool))
 | a =>
 R (Y (a<(b.2.2.2.1.length:Int)))
  (oI a b.2.2.2.1<|R (xx (nth b.2.2.2.1 a (zb qq)).1 c)
  (I (zE (zE true)))
  (I (zF (q9 (a+1)))))
  (I (zE (zF ())))
def QJ s1 f1 s:=zJ (pX s1 f1) s
def pY(c:zn)(b:Form):Int->T (Int⊕(Unit⊕Bool))
 | a =>
 R (Y (a<(b.2.2.2.2.1.length:Int)))
  (oI a b.2.2.2.2.1<|R (xx (nth b.2.2.2.2.1 a (zb xl)).1 c)
  (I (zE (zE true)))
  (I (zF (q9 (a+1)))))
  (I (zE (zF ())))
def QK s2 f2 s:=zJ (pY s2 f2) s
def pZ(c:zn)(b:Form):Int->T (Int⊕(Unit⊕Bool))
 | a =>
 R (Y (a<(b.2.2.2.2.2.1.length:Int)))
  (oI a b.2.2.2.2.2.1<|R (xx (nth b.2.2.2.2.2.1 a (zb xi)).1 c)
  (I (zE (zE true)))
  (I (zF (q9 (a+1)))))
  (I (zE (zF ())))
def QL s3 f3 s:=zJ (pZ s3 f3) s
def r7(c:zn)(b:Form):Int->T (Int⊕(Unit⊕Bool))
 | a =>
 R (Y (a<(b.2.1.length:Int)))
  (oI a b.2.1<|R (xx (nth b.2.1 a (zb qe)).1 c)
  (I (zE (zE true)))
  (I (zF (q9 (a+1)))))
  (I (zE (zF ())))
def QM s4 f4 s:=zJ (r7 s4 f4) s
def rB(a:Form)(b:zn):T Bool :=
 zA (QJ b a 0)<|zI (λ_ =>
 zA (QK b a 0)<|zI (λ_ =>
 zA (QL b a 0)<|zI (λ_ =>
 zA (QM b a 0)<|zI (λ_ =>
 I false)
  (λc =>
 I c))
  (λd =>
 I d))
  (λe =>
 I e))
  (λf =>
 I f)
def hZ(f:ET)(e:Form)(g:Int):(Int×zk×Answer)->T ((Int×zk×Answer)⊕((zk×Answer)⊕(Bool×zk×Answer)))
 | (b,c,a) =>
 R (Y (b<(a.2.1.length:Int)))
  (oI b a.2.1<|zA (rB e (nth a.2.1 b (zb .str))) λd =>
 R (!d)
  (I (zE (zE (false,(c,a)))))
  (I (zF ((q9 (b+1)),(c,a)))))
  (I (zE (zF (c,a))))
def hH l2 f2 i1 s:=zJ (hZ l2 f2 i1) s
def hJ(c:ET)(k:Form):(Int×zk)->T ((Int×zk)⊕(zk⊕(Bool×zk)))
 | (a,d) =>
 R ((Y (a<(c.length:Int)))&&(Y (a<25)))
  (zA (vN d) λf =>
 oI a c<|zA (jb (nth c a (zb mU)) d) λ(e,b) =>
 R (e.1==0)
  (I (zF ((q9 (a+1)),b)))
  (zA (vN b) λg =>
 R (!(xx g f))
  (I (zE (zE (false,b))))
  (zA (hH c k a (0,(b,e)))<|zI (λ(h,l) =>
 I (zF ((q9 (a+1)),h)))
  (λ(i,j,m) =>
 I (zE (zE (i,j)))))))
  (I (zE (zF d)))
def dz l1 f1 s:=zJ (hJ l1 f1) s
def c8(a:Form)(b:ET):T Bool :=
 zA (zA (rA a) λc =>
 R c
  (I true)
  (zA (ZH b) λd =>
 I d):T Bool) λe =>
 R e
  (I true)
  (zA (o8 a)<|zI (λf =>
 R false
  (zA (yO) λg =>
 I g)
  (zA (dz b a (0,f))<|zI (λk =>
 zA (yO) λh =>
 I h)
  (λ(i,l) =>
 I i)))
  (λ_ =>
 R true
  (zA (yO) λj =>
 I j)
  (.fail)))

abbrev Er:Ty:=(.cons (.sl .str) (.cons (.sl .str) .nil))
abbrev dW:=den Er
abbrev b8:Ty:=(.cons .bool (.cons .bool (.cons zm .nil)))
abbrev wq:=den b8
abbrev L7:Ty:=(.cons (.sl zm) (.cons (.sl .bool) (.cons (.sl zm) (.cons (.sl (.int .i64)) (.cons (.sl b8) (.cons (.sl .bool) .nil))))))
abbrev wo:=den L7
end Go.AM.Lf
