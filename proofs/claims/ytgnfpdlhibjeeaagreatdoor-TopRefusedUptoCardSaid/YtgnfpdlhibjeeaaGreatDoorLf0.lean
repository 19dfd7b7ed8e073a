/-
  The program's functions as trees in plain Lean, part 0: printed by a program of ours.
-/
import Derived.Test.YtgnfpdlhibjeeaaGreatDoorAmA
set_option linter.unusedVariables false
open Decidable renaming decide -> zA
open Go.AM.T renaming ret -> Y, bind -> I, ite -> R, loop -> zJ
open Int renaming toNat -> zE, tmod -> zO, tdiv -> zQ
open Sum renaming inr -> zF, inl -> zG, elim -> zK
open List renaming drop -> zH, take -> zI, set -> zL, replicate -> zM, length -> zP
open Nat renaming cast -> zN
noncomputable section
namespace Go.AM.Lf
abbrev jI:Ty:=(.cons .str .nil)
abbrev gS:=den jI
abbrev p8:Ty:=(.cons .str (.cons (.int .u64) .nil))
abbrev Ho:=den p8
abbrev ql:Ty:=(.cons .str (.cons .bool .nil))
abbrev Switch:=den ql
abbrev xk:Ty:=(.cons .str jI)
abbrev ct:=den xk
abbrev uy:Ty:=(.cons (.int .i64) (.cons (.int .i64) .nil))
abbrev xh:=den uy
abbrev sY:Ty:=(.cons (.int .u8) (.cons (.int .u8) .nil))
abbrev By:=den sY
abbrev ed:Ty:=(.cons (.int .i64) (.cons (.sl .str) jI))
abbrev Answer:=den ed
abbrev kS:Ty:=(.cons (.sl .str) (.cons (.sl .str) .nil))
abbrev fW:=den kS
abbrev Xa:Ty:=(.cons (.int .i64) (.cons (.int .i64) (.cons .bool (.cons (.int .u8) .nil))))
abbrev Lv:=den Xa
abbrev zm:Ty:=(.cons .bool (.cons (.sl (.int .u32)) (.cons (.sl (.int .u32)) .nil)))
abbrev Rat:=den zm
abbrev qq:Ty:=(.cons .str (.cons (.int .i64) (.cons .bool (.cons (.int .i64) .nil))))
abbrev Field:=den qq
abbrev xm:Ty:=(.cons .str (.cons (.int .i64) (.cons (.int .i64) (.cons .bool .nil))))
abbrev zf:=den xm
abbrev xl:Ty:=(.cons .str (.cons (.int .i64) (.cons .str (.cons .expr (.cons .expr .nil)))))
abbrev cf:=den xl
abbrev xi:Ty:=(.cons .str (.cons (.int .i64) (.cons (.int .i64) (.cons .expr (.cons .expr .nil)))))
abbrev Check:=den xi
abbrev ny:Ty:=(.cons .str (.cons kS (.cons (.int .i64) (.cons .bool .nil))))
abbrev Xv:=den ny
abbrev qe:Ty:=(.cons .str (.cons zm .nil))
abbrev Param:=den qe
abbrev qk:Ty:=(.cons (.int .i64) (.cons zm .nil))
abbrev Term:=den qk
abbrev mU:Ty:=(.cons (.int .i64) (.cons .str (.cons zm (.cons .bool .nil))))
abbrev Op:=den mU
abbrev q8:Ty:=(.cons .bool (.cons .bool (.cons zm .nil)))
abbrev ve:=den q8
abbrev j4:Ty:=(.cons (.sl (.int .i64)) (.cons (.sl zm) .nil))
abbrev jk:=den j4
abbrev wM:Ty:=(.cons (.sl .str) (.cons (.sl .str) (.cons (.sl zm) .nil)))
abbrev wj:=den wM
abbrev zq:Ty:=(.cons (.int .i64) (.cons (.sl qk) (.cons zm .nil)))
abbrev vM:=den zq
abbrev Bw:Ty:=(.cons (.sl zq) (.cons (.sl (.int .i64)) .nil))
abbrev zbh:=den Bw
abbrev Wg:Ty:=(.cons (.sl zq) (.cons (.sl (.int .i64)) (.cons (.sl (.int .i64)) .nil)))
abbrev z7o:=den Wg
abbrev qv:Ty:=(.cons (.sl ql) (.cons (.sl qe) (.cons (.sl xk) (.cons (.sl qq) (.cons (.sl xl) (.cons (.sl xi) .nil))))))
abbrev Form:=den qv
abbrev xn:Ty:=(.cons (.sl zm) (.cons (.sl .bool) (.cons (.sl zm) (.cons (.sl (.int .i64)) (.cons (.sl q8) (.cons (.sl .bool) .nil))))))
abbrev wH:=den xn
abbrev uF:Ty:=(.cons qv Wg)
abbrev ux:=den uF
abbrev qy:Ty:=(.cons qv (.cons xn (.cons kS (.cons (.int .i64) (.cons .bool .nil)))))
abbrev zk:=den qy
abbrev qf:=List Switch
abbrev z7:=List Int
abbrev qi:=List Param
abbrev xb:=List ct
abbrev qp:=List Field
abbrev zo:=List zn
abbrev dA:=List AM.Expr
abbrev qz:=List cf
abbrev qt:=List Check
abbrev zr:=List Rat
abbrev zp:=List Bool
abbrev wC:=List Term
abbrev zx:=List vM
abbrev qg:=List ve
abbrev ET:=List Op
def yG(a:Int):T Bool :=
 Y ((zA (97<=a))&&(zA (a<=122)))
def jz(a:Int):T Bool :=
 Y ((zA (48<=a))&&(zA (a<=57)))
def yq(a:Int):T Bool :=
 I (yG a) λb =>
 R b
  (Y true)
  (I (jz a) λc =>
 R c
  (Y true)
  (Y (a==95)))
def Q6(b:zn)(d:Int):Int->T (Int⊕(Unit⊕Bool))
 | a =>
 R (zA (a<d))
  (oI a b<|I (yq (vx b a)) λc =>
 R (!c)
  (Y (zF (zF false)))
  (Y (zG (q9 (a+1)))))
  (Y (zF (zG ())))
def Q5 s1 x1 s:=zJ (Q6 s1 x1) s
def uU(a:zn):T Bool :=
 I (R (xx a [])
  (Y true)
  (R (zA (24<(a.length:Int)))
  (Y true)
  (oI 0 a<|I (yG (vx a 0)) λb =>
 Y (!b))):T Bool) λc =>
 R c
  (Y false)
  (I (Q5 a (a.length:Int) 0)<|zK (λ_ =>
 Y true)
  (λd =>
 Y d))
def gi(b:Switch):T Bool :=
 I (uU b.1) λa =>
 Y (!a)
def v8(b:qf)(d:Switch->T Bool)(e:Int):Int->T (Int⊕(Unit⊕Int))
 | a =>
 R (zA (a<e))
  (oI a b<|I (d (nth b a (zb ql))) λc =>
 R c
  (Y (zF (zF a)))
  (Y (zG (q9 (a+1)))))
  (Y (zF (zG ())))
def o6 s1 f x s:=zJ (v8 s1 f x) s
def wb(a:qf)(c:Switch->T Bool):T Int :=
 I (o6 a c (a.length:Int) 0)<|zK (λ_ =>
 Y (-1))
  (λb =>
 Y b)
def vI(b:qf)(c:Switch->T Bool):T Bool :=
 I (wb b c) λa =>
 Y (zA (0<=a))
def Qi(a:z7):T Bool :=
 .zl ((((a.length:Int)==0)=false)->(xe (q9 ((a.length:Int)-1)) a.length))<|Y (((a.length:Int)==0)||((nth a (q9 ((a.length:Int)-1)) (zb (.int .u32))) != 0))
def tI  : z7->T (z7⊕z7)
 | a =>
 I (Qi a) λb =>
 R (!b)
  (.zl (jv 0 (q9 ((a.length:Int)-1)) a.length)<|Y (zG (je (e:=(.int .u32)) 0 (q9 ((a.length:Int)-1)) a)))
  (Y (zF a))
def XT(s:z7):T z7:=zJ (tI ) s
def ue(b:z7):T z7 :=
 I (XT  b) λa =>
 Y a
def yt(a:z7):T z7 :=
 let b:=0+a.length;  .zl (a=[]->∀ r,T.leads (.zl (vZ 0 0 0 0 0 a.length 4)<|.zl (b=b)<|Y (zH 0 (zI (0+b) a)):T _) r->T.leads (Y []:T _) r)<|.zl (vZ 0 0 0 0 0 a.length 4)<|.zl (b=b)<|Y (zH 0 (zI (0+b) a))
def lh(c:z7):T z7 :=
 I (ue c) λa =>
 I (yt a) λb =>
 Y b
def su(b:z7)(c:z7):Int->T (Int⊕(Unit⊕Int))
 | a =>
 R (zA (0<=a))
  (oI a b<|oI a c<|R ((nth b a (zb (.int .u32))) != (nth c a (zb (.int .u32))))
  (oI a b<|oI a c<|R (zA ((nth b a (zb (.int .u32)))<(nth c a (zb (.int .u32)))))
  (Y (zF (zF (-1))))
  (Y (zF (zF 1))))
  (Y (zG (q9 (a-1)))))
  (Y (zF (zG ())))
def GS a2 b2 s:=zJ (su a2 b2) s
def tG(d:z7)(e:z7):T Int :=
 I (ue d) λa =>
 I (ue e) λb =>
 R ((a.length:Int) != (b.length:Int))
  (R (zA ((a.length:Int)<(b.length:Int)))
  (Y (-1))
  (Y 1))
  (I (GS a b (q9 ((a.length:Int)-1)))<|zK (λ_ =>
 Y 0)
  (λc =>
 Y c))
def fu(b:Int)(c:Int)(a:Int):T (Int×Int) :=
 R ((a != 0)&&(zA (a<=b)))
  (.fail)
  (.zl (0<=(32:Int))<|.zl ((xo a)≠0)<|.zl ((xo a)≠0)<|Y ((kT (xo (zQ (JJ .u64 (lZ .u64 (xo b) 32) (xo c)) (xo a)))),(kT (zO (JJ .u64 (lZ .u64 (xo b) 32) (xo c)) (xo a)))))
def pK(e:z7)(g:Int):(Int×Int×z7)->T ((Int×Int×z7)⊕((Int×z7)))
 | (d,b,a) =>
 R (zA (0<=b))
  (oI b e<|I (fu d (nth e b (zb (.int .u32))) g) λ(c,f) =>
 oI b a<|.zl (j6 a.length a.length (0+(zE b)) a.length)<|oM a.length (zL a (0+(zE b)) c).length<|Y (zG (f,((q9 (b-1)),(zL a (0+(zE b)) c)))))
  (oC a<|W a<|Y (zF (d,a)))
def Ja a1 b1 s:=zJ (pK a1 b1) s
def ri(a:z7)(e:Int):T (z7×Int) :=
 .zl (dS (a.length:Int) (a.length:Int) 4)<|oM (zE (a.length:Int)) (zM (zE (a.length:Int)) (0:Int)).length<|I (Ja a e (0,((q9 ((a.length:Int)-1)),(zM (zE (a.length:Int)) 0)))) λ(c,b) =>
 W b<|I (ue (zH 0 (zI (0+b.length) b))) λd =>
 Y (d,c)
def iZ(a:Int):T z7 :=
 .zl (0<=(32:Int))<|I (ue ([(kT a),(kT (j8 .u64 a 32))]:List Int)) λb =>
 Y b
def fx(b:Int):T Int :=
 let a:=bif (zA (65536<=b))then(j8 .u32 b 16)else b;  .zl (((zA (65536<=b))=true)->(0<=(16:Int)))<|.zl (((zA (256<=a))=true)->(0<=(8:Int)))<|.zl (xe (wu8 (bif (zA (256<=a))then(j8 .u32 a 8)else a)) ([0,1,2,2,3,3,3,3,4,4,4,4,4,4,4,4,5,5,5,5,5,5,5,5,5,5,5,5,5,5,5,5,6,6,6,6,6,6,6,6,6,6,6,6,6,6,6,6,6,6,6,6,6,6,6,6,6,6,6,6,6,6,6,6,7,7,7,7,7,7,7,7,7,7,7,7,7,7,7,7,7,7,7,7,7,7,7,7,7,7,7,7,7,7,7,7,7,7,7,7,7,7,7,7,7,7,7,7,7,7,7,7,7,7,7,7,7,7,7,7,7,7,7,7,7,7,7,7,8,8,8,8,8,8,8,8,8,8,8,8,8,8,8,8,8,8,8,8,8,8,8,8,8,8,8,8,8,8,8,8,8,8,8,8,8,8,8,8,8,8,8,8,8,8,8,8,8,8,8,8,8,8,8,8,8,8,8,8,8,8,8,8,8,8,8,8,8,8,8,8,8,8,8,8,8,8,8,8,8,8,8,8,8,8,8,8,8,8,8,8,8,8,8,8,8,8,8,8,8,8,8,8,8,8,8,8,8,8,8,8,8,8,8,8,8,8,8,8,8,8,8,8,8,8,8,8]:zn).length)<|Y (q9 ((bif (zA (256<=a))then(q9 ((bif (zA (65536<=b))then 16 else 0)+8))else(bif (zA (65536<=b))then 16 else 0))+(q9 (vx [0,1,2,2,3,3,3,3,4,4,4,4,4,4,4,4,5,5,5,5,5,5,5,5,5,5,5,5,5,5,5,5,6,6,6,6,6,6,6,6,6,6,6,6,6,6,6,6,6,6,6,6,6,6,6,6,6,6,6,6,6,6,6,6,7,7,7,7,7,7,7,7,7,7,7,7,7,7,7,7,7,7,7,7,7,7,7,7,7,7,7,7,7,7,7,7,7,7,7,7,7,7,7,7,7,7,7,7,7,7,7,7,7,7,7,7,7,7,7,7,7,7,7,7,7,7,7,7,8,8,8,8,8,8,8,8,8,8,8,8,8,8,8,8,8,8,8,8,8,8,8,8,8,8,8,8,8,8,8,8,8,8,8,8,8,8,8,8,8,8,8,8,8,8,8,8,8,8,8,8,8,8,8,8,8,8,8,8,8,8,8,8,8,8,8,8,8,8,8,8,8,8,8,8,8,8,8,8,8,8,8,8,8,8,8,8,8,8,8,8,8,8,8,8,8,8,8,8,8,8,8,8,8,8,8,8,8,8,8,8,8,8,8,8,8,8,8,8,8,8,8,8,8,8,8,8] (wu8 (bif (zA (256<=a))then(j8 .u32 a 8)else a))))))
def kA(b:Int):T Int :=
 I (fx b) λa =>
 Y (q9 (32-a))
def Vf(e:Int)(h:Int)(f:z7)(i:Int):(Int×z7)->T ((Int×z7)⊕z7)
 | (b,a)=>let c:=q9 (b+1); let d:=zL a (0+(zE b)) (JJ .u32 (wB a (0+(zE b)) (zb (.int .u32))) (kT (lZ .u64 (xo (nth f b (zb (.int .u32)))) e))); let g:=zL d (0+(zE c)) (kT (j8 .u64 (lZ .u64 (xo (nth f b (zb (.int .u32)))) e) 32));
 R (zA (b<i))
  (oI b f<|.zl (0<=e)<|oI b a<|.zl (j6 a.length a.length (0+(zE b)) a.length)<|oI b a<|.zl (j6 a.length a.length (0+(zE b)) a.length)<|R (zA (c<h))
  (.zl (0<=(32:Int))<|oI c a<|.zl (j6 a.length a.length (0+(zE c)) d.length)<|oM a.length g.length<|Y (zG (c,g)))
  (oM a.length d.length<|Y (zG (c,d))))
  (oC a<|W a<|Y (zF a))
def Ve by_1 n1 x x1 s:=zJ (Vf by_1 n1 x x1) s
def sy(c:z7)(d:Int)(a:Int):T z7 :=
 .zl (dS a a 4)<|oM (zE a) (zM (zE a) (0:Int)).length<|I (Ve d a c (c.length:Int) (0,(zM (zE a) 0))) λb =>
 oC b<|W b<|Y b
def lj(d:Int)(c:Int)(e:Int):(Int×Int)->T ((Int×Int)⊕Int)
 | (a,b) =>
 .zl ((0<=(32:Int))/\((((j8 .u64 a 32) != 0)=false)->(0<=(32:Int))))<|R (((j8 .u64 a 32) != 0)||(zA ((JJ .u64 (lZ .u64 b 32) (xo d))<(xo (a*(xo e))))))
  (.zl (0<=(32:Int))<|R ((j8 .u64 (xo (b+(xo c))) 32) != 0)
  (Y (zF (xo (a-1))))
  (Y (zG ((xo (a-1)),(xo (b+(xo c)))))))
  (Y (zF a))
def J7 low1 b11 b21 s:=zJ (lj low1 b11 b21) s
def rh(b:Int)(c:Int)(e:Int)(a:Int)(f:Int):T Int :=
 .zl (0<=(32:Int))<|.zl ((xo a)≠0)<|.zl ((xo a)≠0)<|I (J7 e a f ((xo (zQ (JJ .u64 (lZ .u64 (xo b) 32) (xo c)) (xo a))),(zO (JJ .u64 (lZ .u64 (xo b) 32) (xo c)) (xo a)))) λd =>
 Y d
def yc(a:Int)(b:Int)(c:Int):T (Int×Int) :=
 .zl (0<=(31:Int))<|Y ((kT ((kT (a-b))-c)),(j8 .u32 (JJ .u32 (YY .u32 (NH .u32 4294967295 a) b) (YY .u32 (NH .u32 4294967295 (NH .u32 a b)) (kT ((kT (a-b))-c)))) 31))
def ft(a:Int)(b:Int)(c:Int):T (Int×Int) :=
 .zl (0<=(32:Int))<|Y ((kT (xo ((xo ((xo a)+(xo b)))+(xo c)))),(kT (j8 .u64 (xo ((xo ((xo a)+(xo b)))+(xo c))) 32)))
def ll(l:z7)(i:Int)(f:z7)(k:Int):((Nat×Nat)×Int×Int×Int×z7)->T (((Nat×Nat)×Int×Int×Int×z7)⊕(((Nat×Nat)×Int×Int×z7)))
 | (c,e,h,b,a)=>let d:=c.1+(zE b);
 R (zA (b<k))
  (oI b f<|.zl (xe b c.2)<|.zl (j6 a.length a.length d a.length)<|I (yc (wB a d (zb (.int .u32))) (kT (xo (e+(xo (i*(xo (nth f b (zb (.int .u32))))))))) h) λ(g,j) =>
 .zl (xe b c.2)<|.zl (j6 a.length a.length d a.length)<|.zl (0<=(32:Int))<|W a<|.zl (a.length=(zL a d g).length)<|Y (zG (c,((j8 .u64 (xo (e+(xo (i*(xo (nth f b (zb (.int .u32)))))))) 32),(j,((q9 (b+1)),(zL a d g)))))))
  (W a<|W a<|Y (zF (c,(e,(h,a)))))
def XR b1 q1 x x1 s:=zJ (ll b1 q1 x x1) s
def lq(j:z7)(g:z7)(i:Int):((Nat×Nat)×Int×Int×z7)->T (((Nat×Nat)×Int×Int×z7)⊕(((Nat×Nat)×Int×z7)))
 | (c,f,b,a)=>let d:=c.1+(zE b);
 R (zA (b<i))
  (oI b g<|.zl (xe b c.2)<|.zl (j6 a.length a.length d a.length)<|I (ft (wB a d (zb (.int .u32))) (nth g b (zb (.int .u32))) f) λ(e,h) =>
 .zl (xe b c.2)<|.zl (j6 a.length a.length d a.length)<|W a<|.zl (a.length=(zL a d e).length)<|Y (zG (c,(h,((q9 (b+1)),(zL a d e))))))
  (W a<|W a<|Y (zF (c,(f,a))))
def XS b2 x3 x4 s:=zJ (lq b2 x3 x4) s
def tH(o:(Nat×Nat))(b:z7)(p:Int)(h:z7):T (Bool×z7) :=
 let d:=zE (b.length:Int);  W h<|W h<|I (XR b p b (b.length:Int) (o,(0,(0,(0,h))))) λ(e,j,k,a) =>
 .zl (xe (b.length:Int) e.2)<|.zl (j6 a.length a.length (e.1+d) a.length)<|I (yc (wB a (e.1+d) (zb (.int .u32))) (kT j) k) λ(l,m)=>let g:=zL a (e.1+d) l;
 .zl (xe (b.length:Int) e.2)<|.zl (j6 a.length a.length (e.1+d) a.length)<|R (m==0)
  (.zl (a.length=g.length)<|Y (false,g))
  (W a<|.zl (a.length=g.length)<|I (XS b b (b.length:Int) (e,(0,(0,g)))) λ(f,n,c)=>let i:=zL c (f.1+d) (kT ((wB c (f.1+d) (zb (.int .u32)))+n));
 .zl (xe (b.length:Int) f.2)<|.zl (j6 c.length c.length (f.1+d) c.length)<|.zl (xe (b.length:Int) f.2)<|.zl (j6 c.length c.length (f.1+d) c.length)<|.zl (c.length=i.length)<|Y (true,i))
def nS(e:Int)(h:Int)(f:z7)(i:Int):(Int×z7)->T ((Int×z7)⊕z7)
 | (b,a)=>let c:=q9 (b+1); let d:=zL a (0+(zE b)) (JJ .u32 (wB a (0+(zE b)) (zb (.int .u32))) (kT (lZ .u64 (xo (nth f b (zb (.int .u32)))) e))); let g:=zL d (0+(zE c)) (kT (j8 .u64 (lZ .u64 (xo (nth f b (zb (.int .u32)))) e) 32));
 R (zA (b<i))
  (oI b f<|.zl (0<=e)<|oI b a<|.zl (j6 a.length a.length (0+(zE b)) a.length)<|oI b a<|.zl (j6 a.length a.length (0+(zE b)) a.length)<|R (zA (c<h))
  (.zl (0<=(32:Int))<|oI c a<|.zl (j6 a.length a.length (0+(zE c)) d.length)<|oM a.length g.length<|Y (zG (c,g)))
  (oM a.length d.length<|Y (zG (c,d))))
  (oC a<|W a<|Y (zF a))
def KO by_1 n1 x x1 s:=zJ (nS by_1 n1 x x1) s
def J8(c:z7)(d:Int)(a:Int):T z7 :=
 .zl (dS a a 4)<|oM (zE a) (zM (zE a) (0:Int)).length<|I (KO d a c (c.length:Int) (0,(zM (zE a) 0))) λb =>
 W b<|Y (zH 0 (zI (0+b.length) b))
def lg(e:Int)(f:z7)(h:Int):(Int×z7)->T ((Int×z7)⊕z7)
 | (b,a)=>let d:=0+(zE (q9 (b-1))); let c:=zL a (0+(zE b)) (JJ .u32 (wB a (0+(zE b)) (zb (.int .u32))) (kT (j8 .u64 (j8 .u64 (lZ .u64 (xo (nth f b (zb (.int .u32)))) 32) e) 32))); let g:=zL c d (JJ .u32 (wB c d (zb (.int .u32))) (kT (j8 .u64 (lZ .u64 (xo (nth f b (zb (.int .u32)))) 32) e)));
 R (zA (b<h))
  (oI b f<|.zl (0<=(32:Int))<|.zl (0<=e)<|oI b a<|.zl (j6 a.length a.length (0+(zE b)) a.length)<|.zl (0<=(32:Int))<|oI b a<|.zl (j6 a.length a.length (0+(zE b)) a.length)<|R (zA (0<b))
  (oI (q9 (b-1)) a<|.zl (j6 a.length a.length d c.length)<|oI (q9 (b-1)) a<|.zl (j6 a.length a.length d c.length)<|oM a.length g.length<|Y (zG ((q9 (b+1)),g)))
  (oM a.length c.length<|Y (zG ((q9 (b+1)),c))))
  (oC a<|W a<|Y (zF a))
def J5 by_ x x1 s:=zJ (lg by_ x x1) s
def mN(m:z7)(n:Int):T z7 :=
 let g:=V9 (iA n (-4096)) 4096; let d:=q9 (zQ g (32:Int)); let c:=q9 (zQ (q9 (0-g)) (32:Int));  I (ue m) λf=>let a:=(f.length:Int); let i:=q9 ((q9 (d+a))+1); let b:=zE i;
 R (zA (g<0))
  (.zl (32≠(0:Int))<|R (zA (a<=c))
  (Y [])
  (.zl (32≠(0:Int))<|.zl (dS (q9 (a-c)) (q9 (a-c)) 4)<|.zl (jv c a f.length)<|oM (zE (q9 (a-c))) (zM (zE (q9 (a-c))) (0:Int)).length<|I (J5 (xo (zO (q9 (0-g)) (32:Int))) (je (e:=(.int .u32)) c a f) (zN (je (e:=(.int .u32)) c a f).length:Int) (0,(zM (zE (q9 (a-c))) 0))) λh =>
 W h<|I (ue (zH 0 (zI (0+h.length) h))) λj =>
 Y j))
  (.zl (32≠(0:Int))<|.zl (dS i i 4)<|.zl (jv d (zN b:Int) b)<|.zl (32≠(0:Int))<|I (J8 f (xo (zO g (32:Int))) (q9 (a+1))) λk =>
 .zl (Xo b b (0+(zE d)) ((zE (zN b:Int))-(zE d)) (zM b (0:Int)).length)<|.zl (b=b)<|I (ue (zH 0 (zI (0+b) (yE (0+(zE d)) ((zE (zN b:Int))-(zE d)) (zM b 0) k)))) λl =>
 Y l)
def nT(m:Int)(g:z7)(c:Int):(Int×z7×z7)->T ((Int×z7×z7)⊕((z7×z7)))
 | (b,a,d) =>
 R (zA (0<=b))
  (oI (q9 (b+c)) a<|.zl (j6 a.length a.length (0+(zE (q9 (b+c)))) a.length)<|oI (q9 ((q9 (b+c))-1)) a<|.zl (j6 a.length a.length (0+(zE (q9 ((q9 (b+c))-1)))) a.length)<|oI (q9 ((q9 (b+c))-2)) a<|.zl (j6 a.length a.length (0+(zE (q9 ((q9 (b+c))-2)))) a.length)<|oI (q9 (c-1)) g<|oI (q9 (c-2)) g<|I (rh (wB a (0+(zE (q9 (b+c)))) (zb (.int .u32))) (wB a (0+(zE (q9 ((q9 (b+c))-1)))) (zb (.int .u32))) (wB a (0+(zE (q9 ((q9 (b+c))-2)))) (zb (.int .u32))) (nth g (q9 (c-1)) (zb (.int .u32))) (nth g (q9 (c-2)) (zb (.int .u32)))) λh =>
 I (.zl (jv b (q9 ((q9 (b+c))+1)) a.length)<|W a<|W a<|I (tH ((0+(zE b)),((zE (q9 ((q9 (b+c))+1)))-(zE b))) g h a) λ(k,f) =>
 R k
  (oC d<|.zl (zu a.length 0 a.length f.length)<|W f<|W d<|Y ((xo (h-1)),(f,d)))
  (oC d<|.zl (zu a.length 0 a.length f.length)<|W f<|W d<|Y (h,(f,d))):T ((Int×z7×z7))) λ(l,i,e)=>let j:=zL e (0+(zE b)) (kT l);
 oI b e<|.zl (j6 e.length e.length (0+(zE b)) e.length)<|.zl (zu e.length 0 e.length j.length)<|oC i<|W i<|.zl (e.length=j.length)<|Y (zG ((q9 (b-1)),(i,j))))
  (oC d<|oC a<|W a<|W d<|Y (zF (a,d)))
def KP by_ d n s:=zJ (nT by_ d n) s
def J9(i:z7)(c:z7):T (z7×z7) :=
 oI (q9 ((c.length:Int)-1)) c<|I (kA (nth c (q9 ((c.length:Int)-1)) (zb (.int .u32)))) λf =>
 I (sy i (xo f) (q9 ((i.length:Int)+1))) λg =>
 I (sy c (xo f) (c.length:Int)) λa=>let j:=q9 ((q9 ((i.length:Int)-(a.length:Int)))+1); let b:=zE j;
 .zl (dS j j 4)<|W a<|.zl (zu b 0 b (zM b (0:Int)).length)<|oC g<|W g<|.zl (b=(zM b (0:Int)).length)<|I (KP (xo f) (zH 0 (zI (0+a.length) a)) (a.length:Int) ((q9 ((zN b:Int)-1)),(g,(zM b 0)))) λ(d,h) =>
 W h<|W d<|I (ue (zH 0 (zI (0+h.length) h))) λk =>
 .zl (jv 0 (a.length:Int) (zH 0 (zI (0+d.length) d)).length)<|I (mN (je (e:=(.int .u32)) 0 (a.length:Int) (zH 0 (zI (0+d.length) d))) (q9 (0-(q9 (xo f))))) λl =>
 Y (k,l)
def dT(j:z7)(k:z7):T (z7×z7×Bool) :=
 I (ue j) λb =>
 I (ue k) λa =>
 R ((a.length:Int)==0)
  (Y ([],([],false)))
  (I (tG b a) λc =>
 R (zA (c<0))
  (I (lh b) λd =>
 Y ([],(d,true)))
  (R ((a.length:Int)==1)
  (oI 0 a<|I (ri b (nth a 0 (zb (.int .u32)))) λ(e,f) =>
 I (iZ (xo f)) λg =>
 Y (e,(g,true)))
  (I (J9 b a) λ(h,i) =>
 Y (h,(i,true)))))
def sx  : (z7×z7)->T ((z7×z7)⊕z7)
 | (b,a) =>
 R (zA (0<(a.length:Int)))
  (I (dT b a) λ(d,c,e) =>
 Y (zG (a,c)))
  (Y (zF b))
def GU(s:(z7×z7)):T z7:=zJ (sx ) s
def WB(d:z7)(e:z7):T z7 :=
 I (lh d) λa =>
 I (lh e) λb =>
 I (GU  (a,b)) λc =>
 Y c
def Z3(a:Rat):T Bool :=
 I (I (Qi a.2.1) λb =>
 R (!b)
  (Y true)
  (I (Qi a.2.2.1) λc =>
 R (!c)
  (Y true)
  (R ((a.2.2.1.length:Int)==0)
  (Y true)
  (R a.1
  (Y ((a.2.1.length:Int)==0))
  (Y false)))):T Bool) λd =>
 R d
  (Y false)
  (I (WB a.2.1 a.2.2.1) λe =>
 I (iZ 1) λf =>
 I (tG e f) λg =>
 Y (g==0))
def sE(g:Bool)(h:z7)(i:z7):T Rat :=
 I (lh h) λa =>
 I (lh i) λb =>
 R (((a.length:Int)==0)||((b.length:Int)==0))
  (I (iZ 1) λd =>
 Y (false,(([]:List Int),(d,()))))
  (I (WB a b) λc =>
 I (dT a c) λ(e,j,k) =>
 I (dT b c) λ(f,l,m) =>
 Y (g,(e,(f,()))))
def vH(a:Rat):T Rat :=
 I (sE a.1 a.2.1 a.2.2.1) λb =>
 Y b
def cT(b:Rat):T Bool :=
 I (vH b) λa =>
 Y ((zA (16<(a.2.1.length:Int)))||(zA (16<(a.2.2.1.length:Int))))
def gj(a:Param):T Bool :=
 I (uU a.1) λb =>
 R (!b)
  (Y true)
  (I (Z3 a.2.1) λc =>
 R (!c)
  (Y true)
  (I (cT a.2.1) λd =>
 Y d))
def j9(b:qi)(d:Param->T Bool)(e:Int):Int->T (Int⊕(Unit⊕Int))
 | a =>
 R (zA (a<e))
  (oI a b<|I (d (nth b a (zb qe))) λc =>
 R c
  (Y (zF (zF a)))
  (Y (zG (q9 (a+1)))))
  (Y (zF (zG ())))
def oX s1 f x s:=zJ (j9 s1 f x) s
def vL(a:qi)(c:Param->T Bool):T Int :=
 I (oX a c (a.length:Int) 0)<|zK (λ_ =>
 Y (-1))
  (λb =>
 Y b)
def vV(b:qi)(c:Param->T Bool):T Bool :=
 I (vL b c) λa =>
 Y (zA (0<=a))
def lK(a:zn):T Bool :=
 R (xx a [])
  (Y true)
  (I (uU a) λb =>
 Y b)
def gm(a:ct):T Bool :=
 I (uU a.1) λb =>
 R (!b)
  (Y true)
  (I (lK a.2.1) λc =>
 Y (!c))
def yx(b:xb)(d:ct->T Bool)(e:Int):Int->T (Int⊕(Unit⊕Int))
 | a =>
 R (zA (a<e))
  (oI a b<|I (d (nth b a (zb xk))) λc =>
 R c
  (Y (zF (zF a)))
  (Y (zG (q9 (a+1)))))
  (Y (zF (zG ())))
def pU s1 f x s:=zJ (yx s1 f x) s
def uZ(a:xb)(c:ct->T Bool):T Int :=
 I (pU a c (a.length:Int) 0)<|zK (λ_ =>
 Y (-1))
  (λb =>
 Y b)
def yu(b:xb)(c:ct->T Bool):T Bool :=
 I (uZ b c) λa =>
 Y (zA (0<=a))
def tT(b:Form):T Bool :=
 I (vI b.1 (λa=>gi a)) λc =>
 R (!c)
  (I (vV b.2.1 (λa=>gj a)) λd =>
 R (!d)
  (I (yu b.2.2.1 (λa=>gm a)) λe =>
 Y (!e))
  (Y false))
  (Y false)
def lJ(a:Int)(b:Int)(c:Int):T Bool :=
 Y ((zA ((iA b 0)<=a))&&(zA (a<c)))
def oQ(i:Form)(c:qp)(j:Int):(Int×Int)->T ((Int×Int)⊕(Unit⊕Bool))
 | (h,b)=>let a:=nth c b (zb qq);
 R (zA (b<j))
  (oI b c<|I (I (uU a.1) λd =>
 R (!d)
  (Y (true,a))
  (I (lJ a.2.1 h (i.2.2.1.length:Int)) λe =>
 R (!e)
  (Y (true,a))
  (R (zA (a.2.2.2.1<(0:Int)))
  (Y (true,a))
  (Y ((zA ((9:Int)<a.2.2.2.1)),a)))):T ((Bool×Field))) λ(f,g) =>
 R f
  (Y (zF (zF false)))
  (Y (zG (g.2.1,(q9 (b+1))))))
  (Y (zF (zG ())))
def oP f1 x x1 s:=zJ (oQ f1 x x1) s
def pS(a:Form):T Bool :=
 I (oP a a.2.2.2.1 (a.2.2.2.1.length:Int) (0,0))<|zK (λ_ =>
 Y true)
  (λb =>
 Y b)
def bV  : T zo :=
 Y ([[61],[60],[60,61]]:List zn)
def Wu(a:Int):T Int :=
 R (bif (a==1)then(a==1)else(a==2))
  (Y 0)
  (R (a==7)
  (Y 1)
  (R (a==3)
  (Y 2)
  (R (a==4)
  (Y 2)
  (R (a==5)
  (Y 2)
  (R (a==6)
  (Y 2)
  (Y (-1)))))))
def VR(j:z7)(d:Int)(h:Int)(k:z7)(l:Int)(m:Int)(g:z7)(i:Int):(Int×Int×z7)->T ((Int×Int×z7)⊕((Int×z7)))
 | (f,b,a)=>let c:=0+(zE (q9 (d+b))); let e:=xo (f+(xo ((xo ((xo h)*(xo (nth g b (zb (.int .u32))))))+(xo (wB a c (zb (.int .u32)))))));
 R (zA (b<i))
  (oI b g<|oI (q9 (d+b)) a<|.zl (j6 a.length a.length c a.length)<|oI (q9 (d+b)) a<|.zl (j6 a.length a.length c a.length)<|.zl (0<=(32:Int))<|oM a.length (zL a c (kT e)).length<|Y (zG ((j8 .u64 e 32),((q9 (b+1)),(zL a c (kT e))))))
  (oC a<|W a<|Y (zF (f,a)))
def VP b3 i v x3 x4 x5 x6 x7 s:=zJ (VR b3 i v x3 x4 x5 x6 x7) s
def VQ(d:z7)(e:z7)(h:Int):(Int×z7)->T ((Int×z7)⊕z7)
 | (a,c)=>let f:=0+(zE (q9 (a+(d.length:Int))));
 R (zA (a<h))
  (oI a e<|oC c<|W c<|I (VP d a (nth e a (zb (.int .u32))) e h a d (d.length:Int) (0,(0,c))) λ(g,b) =>
 oI (q9 (a+(d.length:Int))) b<|.zl (j6 b.length b.length f b.length)<|oM b.length (zL b f (kT g)).length<|Y (zG ((q9 (a+1)),(zL b f (kT g)))))
  (oC c<|W c<|Y (zF c))
def VO b2 x x1 s:=zJ (VQ b2 x x1) s
def iY(f:z7)(g:z7):T z7 :=
 I (ue f) λb =>
 I (ue g) λd=>let a:=q9 ((b.length:Int)+(d.length:Int));
 .zl (dS a a 4)<|oM (zE a) (zM (zE a) (0:Int)).length<|I (VO d b (b.length:Int) (0,(zM (zE a) 0))) λc =>
 W c<|I (ue (zH 0 (zI (0+c.length) c))) λe =>
 Y e
def VB(e:Int):(z7×Int)->T ((z7×Int)⊕z7)
 | (a,b) =>
 R (zA (b<e))
  (I (iZ 10) λc =>
 I (iY a c) λd =>
 Y (zG (d,(q9 (b+1)))))
  (Y (zF a))
def VA x s:=zJ (VB x) s
def UA(c:Int):T z7 :=
 I (iZ 1) λa =>
 I (VA c (a,0)) λb =>
 Y b
def Xp(a:Rat):T zn :=
 R a.1
  (Y [45])
  (Y [])
def jo  : ((Nat×Nat)×Int×Int×z7)->T (((Nat×Nat)×Int×Int×z7)⊕z7)
 | (b,c,d,a)=>let e:=zL a (b.1+(zE c)) (wB a (b.1+(zE d)) (zb (.int .u8))); let f:=zL e (b.1+(zE d)) (wB a (b.1+(zE c)) (zb (.int .u8)));
 R (zA (c<d))
  (.zl (xe d b.2)<|.zl (j6 a.length a.length (b.1+(zE d)) a.length)<|.zl (xe c b.2)<|.zl (j6 a.length a.length (b.1+(zE c)) a.length)<|.zl (xe c b.2)<|.zl (j6 a.length a.length (b.1+(zE c)) a.length)<|.zl (xe d b.2)<|.zl (j6 a.length a.length (b.1+(zE d)) e.length)<|W a<|.zl (a.length=f.length)<|Y (zG (b,((q9 (c+1)),((q9 (d-1)),f)))))
  (W a<|Y (zF a))
def dy(s:((Nat×Nat)×Int×Int×z7)):T z7:=zJ (jo ) s
def kD(c:(Nat×Nat))(a:z7):T z7 :=
 W a<|W a<|I (dy  (c,(0,((q9 ((zN c.2:Int)-1)),a)))) λb =>
 W b<|Y b
def l9(e:z7):(Int×Int×z7)->T ((Int×Int×z7)⊕z7)
 | (b,c,a)=>let d:=a++([(vx [48,49,50,51,52,53,54,55,56,57] (zO b (10:Int)))]:List Int);
 R (zA (c<9))
  (.zl (10≠(0:Int))<|oI (zO b (10:Int)) ([48,49,50,51,52,53,54,55,56,57]:zn)<|oA a 1<|.zl (10≠(0:Int))<|oM (a.length+1) d.length<|Y (zG ((kT (zQ b (10:Int))),((q9 (c+1)),d))))
  (oC a<|W a<|Y (zF a))
def Qm q1 s:=zJ (l9 q1) s
def l8  : (z7×z7)->T ((z7×z7)⊕z7)
 | (d,a) =>
 R (zA (0<(d.length:Int)))
  (I (ri d 1000000000) λ(c,e) =>
 oC a<|W a<|I (Qm c (e,(0,a))) λb =>
 oC b<|W b<|Y (zG (c,b)))
  (oC a<|W a<|Y (zF a))
def Ql(s:(z7×z7)):T z7:=zJ (l8 ) s
def lf  : ((Nat×Nat)×z7)->T (((Nat×Nat)×z7)⊕(((Nat×Nat)×z7)))
 | (b,a)=>let c:=q9 ((zN b.2:Int)-1);
 .zl (((zA (1<(zN b.2:Int)))=true)->((xe c b.2)/\(j6 a.length a.length (b.1+(zE c)) a.length)))<|R ((zA (1<(zN b.2:Int)))&&((wB a (b.1+(zE c)) (zb (.int .u8)))==48))
  (.zl (jv 0 c b.2)<|W a<|W a<|Y (zG (((b.1+(zE 0)),((zE c)-(zE 0))),a)))
  (W a<|W a<|Y (zF (b,a)))
def J4(s:((Nat×Nat)×z7)):T (((Nat×Nat)×z7)):=zJ (lf ) s
def mM(f:z7):T zn :=
 I (lh f) λd =>
 R ((d.length:Int)==0)
  (Y [48])
  (oZ<|I (Ql  (d,[])) λa =>
 W a<|W a<|I (J4  ((0,a.length),a)) λ(b,c) =>
 W c<|W c<|I (kD b c) λe =>
 .zl (c.length=e.length)<|Y (jd (zH b.1 (zI (b.1+b.2) e))))
def strings_Repeat(b:zn)(a:Int):T zn :=
 .zl (0<=a/\a<=9223372036854775807/\b.length*(zE a)<=140737488355328)<|Y (Bp b (zE a))
def tq(a:zn)(e:Int):T zn :=
 R (e==0)
  (Y a)
  (I (strings_Repeat [48] (iA 0 (q9 ((q9 (e+1))-(a.length:Int))))) λb=>let d:=((cat b a).length:Int); let c:=q9 (d-e);
 oK b a<|.zl (jv 0 c (cat b a).length)<|oK (iv 0 c (cat b a)) [46]<|.zl (jv c d (cat b a).length)<|oK (cat (iv 0 c (cat b a)) [46]) (iv c d (cat b a))<|Y (cat (cat (iv 0 c (cat b a)) [46]) (iv c d (cat b a))))
def ZV  : (Int×Rat)->T ((Int×Rat)⊕(Rat⊕(zn×Bool×Rat)))
 | (b,a) =>
 R (zA (b<61))
  (I (UA b) λe =>
 I (iY a.2.1 e) λf =>
 I (dT f a.2.2.1) λ(g,h,j) =>
 R ((h.length:Int)==0)
  (I (Xp a) λc =>
 I (mM g) λi =>
 I (tq i b) λd =>
 oK c d<|Y (zF (zF ((cat c d),(true,a)))))
  (Y (zG ((q9 (b+1)),a))))
  (Y (zF (zG a)))
def ZU(s:(Int×Rat)):T (Rat⊕(zn×Bool×Rat)):=zJ (ZV ) s
def Zf(d:Rat):T (zn×Bool) :=
 I (vH d) λa =>
 I (ZU  (0,a))<|zK (λe =>
 Y ([],false))
  (λ(b,c,f) =>
 Y (b,c))
def Q7(a:Rat):T Bool :=
 I (I (Z3 a) λb =>
 R (!b)
  (Y true)
  (R a.1
  (Y true)
  (I (cT a) λc =>
 Y c)):T Bool) λd =>
 R d
  (Y false)
  (I (Zf a) λ(f,e) =>
 Y e)
def nK(a:Rat):T Bool :=
 R (!a.1)
  (R ((a.2.1.length:Int)==0)
  (R ((a.2.2.1.length:Int)==0)
  (Y true)
  (I (Z3 a) λb =>
 Y b))
  (Y false))
  (Y false)
def nJ(a:AM.Expr):T Bool :=
 I (Wu (Expr.kind a)) λb =>
 R (((Expr.kids a).length:Int) != b)
  (Y false)
  (R ((Expr.kind a)==1)
  (I (Q7 (Expr.num a)) λc =>
 R c
  (Y (xx (Expr.name a) []))
  (Y false))
  (R ((Expr.kind a)==2)
  (I (nK (Expr.num a)) λd =>
 R d
  (I (uU (Expr.name a)) λe =>
 Y e)
  (Y false))
  (I (nK (Expr.num a)) λf =>
 R f
  (Y (xx (Expr.name a) []))
  (Y false))))
def np(c:AM.Expr->Int->Int->T (Bool×Int))(d:AM.Expr)(e:Int)(f:Int):T (Bool×Int) :=
 I (c d (q9 (e+1)) f) λ(a,b) =>
 Y ((!a),b)
def wV(g:AM.Expr->Int->Int->T (Bool×Int))(e:dA)(h:Int):((Int×Unit)×Int×Int)->T (((Int×Unit)×Int×Int)⊕(Int⊕(Int×Int)))
 | (c,a,d) =>
 R (zA (a<h))
  (oI a e<|I ((np g) (nth e a (zb .expr)) c.1 d) λ(f,b) =>
 R f
  (Y (zF (zF (a,b))))
  (Y (zG ((c.1,()),((q9 (a+1)),b)))))
  (Y (zF (zG d)))
def wv self_expr_may s1 x s:=zJ (wV self_expr_may s1 x) s
def vo(e:AM.Expr->Int->Int->T (Bool×Int))(a:dA)(f:(Int×Unit))(g:Int):T (Int×Int) :=
 I (wv e a (a.length:Int) ((f.1,()),(0,g)))<|zK (λb =>
 Y ((-1),b))
  (λ(c,d) =>
 Y (c,d))
def wU(c:AM.Expr->Int->Int->T (Bool×Int))(d:dA)(e:(Int×Unit))(f:Int):T (Bool×Int) :=
 I ((vo c) d (e.1,()) f) λ(a,b) =>
 Y ((zA (0<=a)),b)
def iT(i:AM.Expr->Int->Int->T (Bool×Int))(c:AM.Expr)(d:Int)(a:Int):T (Bool×Int) :=
 I (R (zA ((q9 (a-1))<0))
  (Y (true,(q9 (a-1))))
  (R (zA (32<=d))
  (Y (true,(q9 (a-1))))
  (I (nJ c) λe =>
 Y ((!e),(q9 (a-1))))):T ((Bool×Int))) λ(f,b) =>
 R f
  (Y (false,b))
  (I ((wU i) (Expr.kids c) (d,()) b) λ(g,h) =>
 Y ((!g),h))
def Q8(e:AM.Expr)(deep:Int)(left:Int):T (Bool×Int):=T.fix (λF x=>iT (λy0 y1 y2=>F (y0,y1,y2)) x.1 x.2.1 x.2.2) (e,deep,left)
def iS(b:AM.Expr):T Bool :=
 I (Q8 b 0 256) λ(a,c) =>
 Y a
def ye  : T zo :=
 Y ([[114,101,113,117,105,114,101,100],[115,116,114,111,110,103],[109,101,100,105,117,109],[119,101,97,107]]:List zn)
def yd(a:cf):T Bool :=
 I (uU a.1) λb =>
 R (!b)
  (Y true)
  (R (zA (a.2.1<(0:Int)))
  (Y true)
  (I (ye) λc =>
 R (zA ((c.length:Int)<=a.2.1))
  (Y true)
  (I (lK a.2.2.1) λd =>
 R (!d)
  (Y true)
  (I (iS a.2.2.2.1) λe =>
 R (!e)
  (Y true)
  (I (iS a.2.2.2.2.1) λf =>
 Y (!f))))))
def dx(b:qz)(d:cf->T Bool)(e:Int):Int->T (Int⊕(Unit⊕Int))
 | a =>
 R (zA (a<e))
  (oI a b<|I (d (nth b a (zb xl))) λc =>
 R c
  (Y (zF (zF a)))
  (Y (zG (q9 (a+1)))))
  (Y (zF (zG ())))
def pV s1 f x s:=zJ (dx s1 f x) s
def bu(a:qz)(c:cf->T Bool):T Int :=
 I (pV a c (a.length:Int) 0)<|zK (λ_ =>
 Y (-1))
  (λb =>
 Y b)
def yv(b:qz)(c:cf->T Bool):T Bool :=
 I (bu b c) λa =>
 Y (zA (0<=a))
def oO(l:Form)(c:qt)(m:Int):(Int×Int)->T ((Int×Int)⊕(Unit⊕Bool))
 | (k,b)=>let a:=nth c b (zb xi);
 R (zA (b<m))
  (oI b c<|I (I (uU a.1) λd =>
 R (!d)
  (Y (true,a))
  (I (lJ a.2.1 k (l.2.2.1.length:Int)) λe =>
 R (!e)
  (Y (true,a))
  (R (zA (a.2.2.1<(0:Int)))
  (Y (true,a))
  (I (bV) λf =>
 R (zA ((f.length:Int)<=a.2.2.1))
  (Y (true,a))
  (I (iS (Expr.mk (Expr.kind a.2.2.2.1) ((Expr.num a.2.2.2.1).1,((Expr.num a.2.2.2.1).2.1,((Expr.num a.2.2.2.1).2.2.1,()))) (Expr.name a.2.2.2.1) (Expr.kids a.2.2.2.1))) λg =>
 R (!g)
  (Y (true,a))
  (I (iS (Expr.mk (Expr.kind a.2.2.2.2.1) ((Expr.num a.2.2.2.2.1).1,((Expr.num a.2.2.2.2.1).2.1,((Expr.num a.2.2.2.2.1).2.2.1,()))) (Expr.name a.2.2.2.2.1) (Expr.kids a.2.2.2.2.1))) λh =>
 Y ((!h),a)))))):T ((Bool×Check))) λ(i,j) =>
 R i
  (Y (zF (zF false)))
  (Y (zG (j.2.1,(q9 (b+1))))))
  (Y (zF (zG ())))
def oN f1 x x1 s:=zJ (oO f1 x x1) s
def pR(a:Form):T Bool :=
 I (oN a a.2.2.2.2.2.1 (a.2.2.2.2.2.1.length:Int) (0,0))<|zK (λ_ =>
 I (yv a.2.2.2.2.1 (λb=>yd b)) λc =>
 Y (!c))
  (λd =>
 Y d)
def Z0(v:Unit)(l:List Int):T (Unit×List Int):=Y (v,l)
def xr(b:zn)(e:Unit)(c:z7):T (Int×Unit×z7) :=
 oC c<|W c<|I (Z0 () c) λ(d,a) =>
 .zl (vZ a.length a.length 0 a.length a.length (bytesOf b).length 1)<|oM (a.length+(bytesOf b).length) (a++(bytesOf b)).length<|Y ((b.length:Int),((),(a++(bytesOf b))))
def gJ(g:Rat):T zn :=
 I (vH g) λa =>
 I (Xp a) λb =>
 I (mM a.2.1) λc =>
 oK b c<|I (iZ 1) λe =>
 I (tG a.2.2.1 e) λf =>
 R (f != 0)
  (I (mM a.2.2.1) λd =>
 oK [47] d<|oK (cat b c) (cat [47] d)<|Y (cat (cat b c) (cat [47] d)))
  (Y (cat b c))
def sS(a:zn):T zn :=
 R (xx a [])
  (Y [])
  (oK [32,119,104,101,110,32] a<|Y (cat [32,119,104,101,110,32] a))
def strconv_Itoa(a:Int):T zn :=
 .zl ((-9223372036854775808)<=a/\a<=9223372036854775807)<|Y (KH a)
def tS(a:Field):T zn :=
 let c:=cat [102,105,101,108,100,32] a.1; let b:=bif a.2.2.1 then(cat c [32,109,117,115,116])else c;  oK [102,105,101,108,100,32] a.1<|.zl ((a.2.2.1=true)->((c.length+([32,109,117,115,116]:zn).length)<=4611686018427387904))<|R (zA ((0:Int)<a.2.2.2.1))
  (I (strconv_Itoa a.2.2.2.1) λe=>let d:=cat [32,115,99,97,108,101,32] e;
 oK [32,115,99,97,108,101,32] e<|oK b d<|oK (cat b d) [10]<|Y (cat (cat b d) [10]))
  (oK b [10]<|Y (cat b [10]))
def mF(a:AM.Expr):T Int :=
 R (bif ((Expr.kind a)==3)then((Expr.kind a)==3)else((Expr.kind a)==4))
  (Y 1)
  (R (bif ((Expr.kind a)==5)then((Expr.kind a)==5)else((Expr.kind a)==6))
  (Y 2)
  (R ((Expr.kind a)==7)
  (Y 3)
  (Y 4)))
def dO(c:AM.Expr->T zn)(b:AM.Expr)(f:Int):T zn :=
 I (mF b) λd =>
 R (zA (d<f))
  (I (c b) λa =>
 oK [40] a<|oK (cat [40] a) [41]<|Y (cat (cat [40] a) [41]))
  (I (c b) λe =>
 Y e)
def gW(d:AM.Expr->T zn)(a:AM.Expr):T zn :=
 I (R ((Expr.kind a)==1)
  (I (Zf (Expr.num a)) λ(g,k) =>
 Y (zF g))
  (R ((Expr.kind a)==2)
  (Y (zF (Expr.name a)))
  (R ((Expr.kind a)==7)
  (oI 0 (Expr.kids a)<|I ((dO d) (nth (Expr.kids a) 0 (zb .expr)) 3) λe =>
 oK [45] e<|Y (zF (cat [45] e)))
  (R ((Expr.kind a)==3)
  (Y (zG [32,43,32]))
  (R ((Expr.kind a)==4)
  (Y (zG [32,45,32]))
  (R ((Expr.kind a)==5)
  (Y (zG [32,42,32]))
  (R ((Expr.kind a)==6)
  (Y (zG [32,47,32]))
  (Y (zG [])))))))):T (zn⊕zn))<|zK (λb =>
 oI 0 (Expr.kids a)<|I (mF a) λh =>
 I ((dO d) (nth (Expr.kids a) 0 (zb .expr)) h) λc =>
 oK c b<|oI 1 (Expr.kids a)<|I (mF a) λi =>
 I ((dO d) (nth (Expr.kids a) 1 (zb .expr)) (q9 (i+1))) λf =>
 oK (cat c b) f<|Y (cat (cat c b) f))
  (λj =>
 Y j)
def Q9(e:AM.Expr):T zn:=T.fix (λF x=>gW (λy0=>F (y0)) x) e
def sc(a:AM.Expr):T zn :=
 I (iS a) λb =>
 R (!b)
  (Y [])
  (I (Q9 a) λc =>
 Y c)
def o5(e:AM.Expr)(a:zn)(f:AM.Expr):T zn :=
 I (sc e) λc=>let b:=cat (cat [32,58,32] c) [32];
 oK [32,58,32] c<|oK (cat [32,58,32] c) [32]<|oK b a<|oK (cat b a) [32]<|I (sc f) λd =>
 oK (cat (cat b a) [32]) d<|oK (cat (cat (cat b a) [32]) d) [10]<|Y (cat (cat (cat (cat b a) [32]) d) [10])
def oT(f:Int)(k:Form)(d:qp)(g:Int):(Int×Unit×z7)->T ((Int×Unit×z7)⊕((Unit×z7)))
 | (b,j,a) =>
 R (zA (b<g))
  (oI b d<|R ((nth d b (zb qq)).2.1==f)
  (I (tS (nth d b (zb qq))) λe =>
 oC a<|W a<|I (xr e () a) λ(h,i,c) =>
 oC c<|W c<|Y (zG ((q9 (b+1)),((),c))))
  (oC a<|W a<|Y (zG ((q9 (b+1)),((),a)))))
  (oC a<|W a<|Y (zF ((),a)))
def oR i1 f1 x x1 s:=zJ (oT i1 f1 x x1) s
def fA(h:Int)(g:qt)(i:Int):(Int×Unit×z7)->T ((Int×Unit×z7)⊕((Unit×z7)))
 | (c,l,b)=>let a:=nth g c (zb xi);
 R (zA (c<i))
  (oI c g<|R (a.2.1==h)
  (oK [99,104,101,99,107,32] a.1<|I (bV) λe =>
 .zl (xe a.2.2.1 e.length)<|I (o5 (Expr.mk (Expr.kind a.2.2.2.1) ((Expr.num a.2.2.2.1).1,((Expr.num a.2.2.2.1).2.1,((Expr.num a.2.2.2.1).2.2.1,()))) (Expr.name a.2.2.2.1) (Expr.kids a.2.2.2.1)) (nth e a.2.2.1 (zb .str)) (Expr.mk (Expr.kind a.2.2.2.2.1) ((Expr.num a.2.2.2.2.1).1,((Expr.num a.2.2.2.2.1).2.1,((Expr.num a.2.2.2.2.1).2.2.1,()))) (Expr.name a.2.2.2.2.1) (Expr.kids a.2.2.2.2.1))) λf =>
 oK (cat [99,104,101,99,107,32] a.1) f<|oC b<|W b<|I (xr (cat (cat [99,104,101,99,107,32] a.1) f) () b) λ(j,k,d) =>
 oC d<|W d<|Y (zG ((q9 (c+1)),((),d))))
  (oC b<|W b<|Y (zG ((q9 (c+1)),((),b)))))
  (oC b<|W b<|Y (zF ((),b)))
def oS i2 x3 x4 s:=zJ (fA i2 x3 x4) s
def pT(a:Form)(b:Int)(m:Unit)(g:z7):T (Unit×z7) :=
 let h:=cat [112,97,103,101,32] (nth a.2.2.1 b (zb xk)).1;  oI b a.2.2.1<|oK [112,97,103,101,32] (nth a.2.2.1 b (zb xk)).1<|oI b a.2.2.1<|I (sS (nth a.2.2.1 b (zb xk)).2.1) λc =>
 oK h c<|oK (cat h c) [10]<|oC g<|W g<|I (xr (cat (cat h c) [10]) () g) λ(i,j,d) =>
 oC d<|W d<|I (oR b a a.2.2.2.1 (a.2.2.2.1.length:Int) (0,((),d))) λ(k,e) =>
 oC e<|W e<|I (oS b a.2.2.2.2.2.1 (a.2.2.2.2.2.1.length:Int) (0,((),e))) λ(l,f) =>
 oC f<|W f<|Y ((),f)
def rE(v:Unit)(l:List Int):T (zn×Unit):=z5a l
def sP(k:Form)(e:qf)(g:Int):(Int×Unit×z7)->T ((Int×Unit×z7)⊕((Unit×z7)))
 | (b,j,a)=>let c:=nth e b (zb ql); let f:=bif c.2.1 then[32,111,110,10]else[32,111,102,102,10];
 R (zA (b<g))
  (oI b e<|oK [115,119,105,116,99,104,32] c.1<|oK (cat [115,119,105,116,99,104,32] c.1) f<|oC a<|W a<|I (xr (cat (cat [115,119,105,116,99,104,32] c.1) f) () a) λ(h,i,d) =>
 oC d<|W d<|Y (zG ((q9 (b+1)),((),d))))
  (oC a<|W a<|Y (zF ((),a)))
def sJ f1 x x1 s:=zJ (sP f1 x x1) s
def sQ(l:Form)(g:qi)(h:Int):(Int×Unit×z7)->T ((Int×Unit×z7)⊕((Unit×z7)))
 | (c,k,a)=>let b:=nth g c (zb qe); let d:=cat [112,97,114,97,109,32] b.1;
 R (zA (c<h))
  (oI c g<|oK [112,97,114,97,109,32] b.1<|oK d [32]<|I (gJ (b.2.1.1,(b.2.1.2.1,(b.2.1.2.2.1,())))) λe =>
 oK (cat d [32]) e<|oK (cat (cat d [32]) e) [10]<|oC a<|W a<|I (xr (cat (cat (cat d [32]) e) [10]) () a) λ(i,j,f) =>
 oC f<|W f<|Y (zG ((q9 (c+1)),((),f))))
  (oC a<|W a<|Y (zF ((),a)))
def sK f2 x3 x4 s:=zJ (sQ f2 x3 x4) s
def sR(d:Form)(e:Int):(Int×Unit×z7)->T ((Int×Unit×z7)⊕((Unit×z7)))
 | (c,g,a) =>
 R (zA (c<e))
  (oC a<|W a<|I (pT d c () a) λ(f,b) =>
 oC b<|W b<|Y (zG ((q9 (c+1)),((),b))))
  (oC a<|W a<|Y (zF ((),a)))
def sM f3 x6 s:=zJ (sR f3 x6) s
def lL(i:qz)(j:Int):(Int×Unit×z7)->T ((Int×Unit×z7)⊕((Unit×z7)))
 | (d,m,b)=>let a:=nth i d (zb xl);
 R (zA (d<j))
  (oI d i<|I (ye) λe=>let c:=cat [114,117,108,101,32] (nth e a.2.1 (zb .str));
 .zl (xe a.2.1 e.length)<|oK [114,117,108,101,32] (nth e a.2.1 (zb .str))<|oK c [32]<|oK (cat c [32]) a.1<|I (sS a.2.2.1) λf =>
 oK (cat (cat c [32]) a.1) f<|I (o5 (Expr.mk (Expr.kind a.2.2.2.1) ((Expr.num a.2.2.2.1).1,((Expr.num a.2.2.2.1).2.1,((Expr.num a.2.2.2.1).2.2.1,()))) (Expr.name a.2.2.2.1) (Expr.kids a.2.2.2.1)) [61] (Expr.mk (Expr.kind a.2.2.2.2.1) ((Expr.num a.2.2.2.2.1).1,((Expr.num a.2.2.2.2.1).2.1,((Expr.num a.2.2.2.2.1).2.2.1,()))) (Expr.name a.2.2.2.2.1) (Expr.kids a.2.2.2.2.1))) λh =>
 oK (cat (cat (cat c [32]) a.1) f) h<|oC b<|W b<|I (xr (cat (cat (cat (cat c [32]) a.1) f) h) () b) λ(k,l,g) =>
 oC g<|W g<|Y (zG ((q9 (d+1)),((),g))))
  (oC b<|W b<|Y (zF ((),b)))
def sO x8 x9 s:=zJ (lL x8 x9) s
def o0(a:Form):T zn :=
 oZ<|I (sJ a a.1 (a.1.length:Int) (0,((),[]))) λ(g,b) =>
 oC b<|W b<|I (sK a a.2.1 (a.2.1.length:Int) (0,((),b))) λ(h,c) =>
 oC c<|W c<|I (sM a (a.2.2.1.length:Int) (0,((),c))) λ(i,d) =>
 oC d<|W d<|I (sO a.2.2.2.2.1 (a.2.2.2.2.1.length:Int) (0,((),d))) λ(j,e) =>
 oC e<|W e<|I (rE () e) λ(f,k) =>
 Y f
def ZE(a:Form):T Bool :=
 I (tT a) λb =>
 R b
  (I (pS a) λc =>
 R c
  (I (pR a) λd =>
 R d
  (I (o0 a) λe =>
 Y (zA ((e.length:Int)<=16384)))
  (Y false))
  (Y false))
  (Y false)
def rP(e:Form)(c:qf)(d:Int):(Int×zo)->T ((Int×zo)⊕zo)
 | (b,a) =>
 R (zA (b<d))
  (oI b c<|oA a 16<|oM (a.length+1) (a++([(nth c b (zb ql)).1]:List zn)).length<|Y (zG ((q9 (b+1)),(a++([(nth c b (zb ql)).1]:List zn)))))
  (oC a<|W a<|Y (zF a))
def rJ f1 x x1 s:=zJ (rP f1 x x1) s
def rQ(e:Form)(c:qi)(d:Int):(Int×zo)->T ((Int×zo)⊕zo)
 | (b,a) =>
 R (zA (b<d))
  (oI b c<|oA a 16<|oM (a.length+1) (a++([(nth c b (zb qe)).1]:List zn)).length<|Y (zG ((q9 (b+1)),(a++([(nth c b (zb qe)).1]:List zn)))))
  (oC a<|W a<|Y (zF a))
def rK f2 x3 x4 s:=zJ (rQ f2 x3 x4) s
def rR(e:Form)(c:xb)(d:Int):(Int×zo)->T ((Int×zo)⊕zo)
 | (b,a) =>
 R (zA (b<d))
  (oI b c<|oA a 16<|oM (a.length+1) (a++([(nth c b (zb xk)).1]:List zn)).length<|Y (zG ((q9 (b+1)),(a++([(nth c b (zb xk)).1]:List zn)))))
  (oC a<|W a<|Y (zF a))
def rL f3 x6 x7 s:=zJ (rR f3 x6 x7) s
def rS(e:Form)(c:qp)(d:Int):(Int×zo)->T ((Int×zo)⊕zo)
 | (b,a) =>
 R (zA (b<d))
  (oI b c<|oA a 16<|oM (a.length+1) (a++([(nth c b (zb qq)).1]:List zn)).length<|Y (zG ((q9 (b+1)),(a++([(nth c b (zb qq)).1]:List zn)))))
  (oC a<|W a<|Y (zF a))
def rM f4 x9 x10 s:=zJ (rS f4 x9 x10) s
def rT(e:Form)(c:qz)(d:Int):(Int×zo)->T ((Int×zo)⊕zo)
 | (b,a) =>
 R (zA (b<d))
  (oI b c<|oA a 16<|oM (a.length+1) (a++([(nth c b (zb xl)).1]:List zn)).length<|Y (zG ((q9 (b+1)),(a++([(nth c b (zb xl)).1]:List zn)))))
  (oC a<|W a<|Y (zF a))
def rN f5 x12 x13 s:=zJ (rT f5 x12 x13) s
def rU(c:qt)(d:Int):(Int×zo)->T ((Int×zo)⊕zo)
 | (b,a) =>
 R (zA (b<d))
  (oI b c<|oA a 16<|oM (a.length+1) (a++([(nth c b (zb xi)).1]:List zn)).length<|Y (zG ((q9 (b+1)),(a++([(nth c b (zb xi)).1]:List zn)))))
  (oC a<|W a<|Y (zF a))
def rO x15 x16 s:=zJ (rU x15 x16) s
def tn(a:Form):T zo :=
 oZ<|I (rJ a a.1 (a.1.length:Int) (0,[])) λb =>
 oC b<|W b<|I (rK a a.2.1 (a.2.1.length:Int) (0,b)) λc =>
 oC c<|W c<|I (rL a a.2.2.1 (a.2.2.1.length:Int) (0,c)) λd =>
 oC d<|W d<|I (rM a a.2.2.2.1 (a.2.2.2.1.length:Int) (0,d)) λe =>
 oC e<|W e<|I (rN a a.2.2.2.2.1 (a.2.2.2.2.1.length:Int) (0,e)) λf =>
 oC f<|W f<|I (rO a.2.2.2.2.2.1 (a.2.2.2.2.2.1.length:Int) (0,f)) λg =>
 W g<|Y (zH 0 (zI (0+g.length) g))
def twR:List zn->List zn->zn×Bool
 | _,[]=>([],false)
 | seen,x::r=>if x∈seen then(x,true)else twR (seen++[x]) r
def tp(l:List zn):T (zn×Bool):=.zl (zP l*16<=140737488351232/\∀ s∈l,zP s<=9223372036854775807)<|Y (twR [] l)
def u7(a:Switch)(b:zn):T Bool :=
 Y (xx a.1 b)
def jY(a:zn)(d:Form):T Bool :=
 R (!(xx a []))
  (I (vI d.1 (λb=>u7 b a)) λc =>
 Y (!c))
  (Y false)
def uS(b:zo)(d:zn->T Bool)(e:Int):Int->T (Int⊕(Unit⊕Int))
 | a =>
 R (zA (a<e))
  (oI a b<|I (d (nth b a (zb .str))) λc =>
 R c
  (Y (zF (zF a)))
  (Y (zG (q9 (a+1)))))
  (Y (zF (zG ())))
def o7 s1 f x s:=zJ (uS s1 f x) s
def wW(a:zo)(c:zn->T Bool):T Int :=
 I (o7 a c (a.length:Int) 0)<|zK (λ_ =>
 Y (-1))
  (λb =>
 Y b)
def fG(e:Form)(c:xb)(d:Int):(Int×zo)->T ((Int×zo)⊕zo)
 | (b,a) =>
 R (zA (b<d))
  (oI b c<|oA a 16<|oM (a.length+1) (a++([(nth c b (zb xk)).2.1]:List zn)).length<|Y (zG ((q9 (b+1)),(a++([(nth c b (zb xk)).2.1]:List zn)))))
  (oC a<|W a<|Y (zF a))
def fD f1 x x1 s:=zJ (fG f1 x x1) s
def fH(e:Form)(c:qz)(d:Int):(Int×zo)->T ((Int×zo)⊕zo)
 | (b,a) =>
 R (zA (b<d))
  (oI b c<|oA a 16<|oM (a.length+1) (a++([(nth c b (zb xl)).2.2.1]:List zn)).length<|Y (zG ((q9 (b+1)),(a++([(nth c b (zb xl)).2.2.1]:List zn)))))
  (oC a<|W a<|Y (zF a))
def fE f2 x3 x4 s:=zJ (fH f2 x3 x4) s
def fk(b:Form):T (zn×Bool) :=
 oZ<|I (fD b b.2.2.1 (b.2.2.1.length:Int) (0,[])) λd =>
 oC d<|W d<|I (fE b b.2.2.2.2.1 (b.2.2.2.2.1.length:Int) (0,d)) λa =>
 W a<|I (wW (zH 0 (zI (0+a.length) a)) (λe=>jY e b)) λc =>
 R (zA (c<0))
  (Y ([],false))
  (oI c a<|.zl (j6 a.length a.length (0+(zE c)) a.length)<|Y ((wB a (0+(zE c)) (zb .str)),true))
def gG(b:zo)(c:zn)(d:Int):Int->T (Int⊕(Unit⊕Int))
 | a =>
 R (zA (a<d))
  (oI a b<|R (xx c (nth b a (zb .str)))
  (Y (zF (zF a)))
  (Y (zG (q9 (a+1)))))
  (Y (zF (zG ())))
def gF s1 v1 x s:=zJ (gG s1 v1 x) s
def wE(a:zo)(c:zn):T Int :=
 I (gF a c (a.length:Int) 0)<|zK (λ_ =>
 Y (-1))
  (λb =>
 Y b)
def wN(b:zo)(c:zn):T Bool :=
 I (wE b c) λa =>
 Y (zA (0<=a))
def fp(e:AM.Expr->zo->T zo)(d:dA)(f:Int):(Int×zo)->T ((Int×zo)⊕zo)
 | (b,a) =>
 R (zA (b<f))
  (oI b d<|oC a<|W a<|I (e (nth d b (zb .expr)) a) λc =>
 oC c<|W c<|Y (zG ((q9 (b+1)),c)))
  (oC a<|W a<|Y (zF a))
def cL self_expr_names x1 x2 s:=zJ (fp self_expr_names x1 x2) s
def dM(h:AM.Expr->zo->T zo)(c:AM.Expr)(a:zo):T zo :=
 I (I (R ((Expr.kind c)==2)
  (W a<|I (wN (zH 0 (zI (0+a.length) a)) (Expr.name c)) λf =>
 oC a<|W a<|Y ((!f),a))
  (oC a<|W a<|Y (false,a)):T ((Bool×zo))) λ(g,b) =>
 R g
  (oA b 16<|oM (b.length+1) (b++([(Expr.name c)]:List zn)).length<|Y (b++([(Expr.name c)]:List zn)))
  (oC b<|W b<|Y b):T zo) λd =>
 oC d<|W d<|I (cL h (Expr.kids c) ((Expr.kids c).length:Int) (0,d)) λe =>
 oC e<|W e<|Y e
def pF(e:AM.Expr)(l:zo):T zo:=T.fix (λF x=>dM (λy0 y1=>F (y0,y1)) x.1 x.2) (e,l)
def mH(d:dA)(e:Int):(Int×zo)->T ((Int×zo)⊕zo)
 | (b,a) =>
 R (zA (b<e))
  (oI b d<|oC a<|W a<|I (pF (nth d b (zb .expr)) a) λc =>
 oC c<|W c<|Y (zG ((q9 (b+1)),c)))
  (oC a<|W a<|Y (zF a))
def mG x1 x2 s:=zJ (mH x1 x2) s
def nq(c:AM.Expr)(a:zo):T zo :=
 I (I (R ((Expr.kind c)==2)
  (W a<|I (wN (zH 0 (zI (0+a.length) a)) (Expr.name c)) λf =>
 oC a<|W a<|Y ((!f),a))
  (oC a<|W a<|Y (false,a)):T ((Bool×zo))) λ(g,b) =>
 R g
  (oA b 16<|oM (b.length+1) (b++([(Expr.name c)]:List zn)).length<|Y (b++([(Expr.name c)]:List zn)))
  (oC b<|W b<|Y b):T zo) λd =>
 oC d<|W d<|I (mG (Expr.kids c) ((Expr.kids c).length:Int) (0,d)) λe =>
 oC e<|W e<|Y e
def dL(b:AM.Expr):T zo :=
 oZ<|I (nq b []) λa =>
 W a<|Y (zH 0 (zI (0+a.length) a))
def jj(l:List zo):T zo:=.zl (zP l*24<=140737488351232/\zP (List.flatten l)*16<=140737488355328/\l≠[])<|Y (List.flatten l)
def uI(a:Param)(b:zn):T Bool :=
 Y (xx a.1 b)
def yJ(a:zn)(e:zo)(f:Form):T Bool :=
 I (wN e a) λb =>
 R (!b)
  (I (vV f.2.1 (λc=>uI c a)) λd =>
 Y (!d))
  (Y false)
def mv(i:Form)(j:zo)(d:qt)(h:Int):(zo×Int)->T ((zo×Int)⊕zo)
 | (c,b)=>let a:=nth d b (zb xi);
 R (zA (b<h))
  (oI b d<|I (dL (Expr.mk (Expr.kind a.2.2.2.1) ((Expr.num a.2.2.2.1).1,((Expr.num a.2.2.2.1).2.1,((Expr.num a.2.2.2.1).2.2.1,()))) (Expr.name a.2.2.2.1) (Expr.kids a.2.2.2.1))) λe =>
 I (dL (Expr.mk (Expr.kind a.2.2.2.2.1) ((Expr.num a.2.2.2.2.1).1,((Expr.num a.2.2.2.2.1).2.1,((Expr.num a.2.2.2.2.1).2.2.1,()))) (Expr.name a.2.2.2.2.1) (Expr.kids a.2.2.2.2.1))) λf =>
 I (jj ([c,e,f]:List zo)) λg =>
 Y (zG (g,(q9 (b+1)))))
  (Y (zF c))
def mr f1 fields1 x x1 s:=zJ (mv f1 fields1 x x1) s
def mw(i:Form)(j:zo)(d:qz)(h:Int):(zo×Int)->T ((zo×Int)⊕zo)
 | (c,b)=>let a:=nth d b (zb xl);
 R (zA (b<h))
  (oI b d<|I (dL (Expr.mk (Expr.kind a.2.2.2.1) ((Expr.num a.2.2.2.1).1,((Expr.num a.2.2.2.1).2.1,((Expr.num a.2.2.2.1).2.2.1,()))) (Expr.name a.2.2.2.1) (Expr.kids a.2.2.2.1))) λe =>
 I (dL (Expr.mk (Expr.kind a.2.2.2.2.1) ((Expr.num a.2.2.2.2.1).1,((Expr.num a.2.2.2.2.1).2.1,((Expr.num a.2.2.2.2.1).2.2.1,()))) (Expr.name a.2.2.2.2.1) (Expr.kids a.2.2.2.2.1))) λf =>
 I (jj ([c,e,f]:List zo)) λg =>
 Y (zG (g,(q9 (b+1)))))
  (Y (zF c))
def mu f2 fields2 x3 x4 s:=zJ (mw f2 fields2 x3 x4) s
def mY(a:Form)(d:zo):T (zn×Bool) :=
 I (mr a d a.2.2.2.2.2.1 (a.2.2.2.2.2.1.length:Int) ([],0)) λe =>
 I (mu a d a.2.2.2.2.1 (a.2.2.2.2.1.length:Int) (e,0)) λb =>
 I (wW b (λf=>yJ f d a)) λc =>
 R (zA (c<0))
  (Y ([],false))
  (oI c b<|Y ((nth b c (zb .str)),true))
def cv(b:zn)(c:zo):T Bool :=
 I (wN c b) λa =>
 Y a
def kJ(b:zo)(c:zn->T Bool):T Bool :=
 I (wW b c) λa =>
 Y (zA (0<=a))
def Ze(d:AM.Expr)(e:zo):T Bool :=
 I (dL d) λa =>
 I (kJ a (λb=>cv b e)) λc =>
 Y c
def j5(b:AM.Expr->zo->T Bool)(c:AM.Expr)(d:zo):T Bool :=
 I (b c d) λa =>
 Y (!a)
def yw(f:AM.Expr->zo->T Bool)(b:dA)(d:AM.Expr->T Bool)(e:Int):Int->T (Int⊕(Unit⊕Int))
 | a =>
 R (zA (a<e))
  (oI a b<|I (d (nth b a (zb .expr))) λc =>
 R c
  (Y (zF (zF a)))
  (Y (zG (q9 (a+1)))))
  (Y (zF (zG ())))
def dw self_check_Linear s1 f x s:=zJ (yw self_check_Linear s1 f x) s
def br(c:AM.Expr->zo->T Bool)(a:dA)(d:AM.Expr->T Bool):T Int :=
 I (dw c a d (a.length:Int) 0)<|zK (λ_ =>
 Y (-1))
  (λb =>
 Y b)
def jm(b:AM.Expr->zo->T Bool)(c:dA)(d:AM.Expr->T Bool):T Bool :=
 I ((br b) c d) λa =>
 Y (zA (0<=a))
def dC(e:AM.Expr->zo->T Bool)(a:AM.Expr)(d:zo):T Bool :=
 let c:=Ze (nth (Expr.kids a) 1 (zb .expr)) d; let b:=((nth (Expr.kids a) 0 (zb .expr)),(nth (Expr.kids a) 1 (zb .expr)));  I (R (((Expr.kids a).length:Int)==2)
  (oI 0 (Expr.kids a)<|oI 1 (Expr.kids a)<|I (R ((Expr.kind a)==5)
  (I (Ze (nth (Expr.kids a) 0 (zb .expr)) d) λf =>
 R f
  (I c λg =>
 R g
  (Y (true,b))
  (R ((Expr.kind a)==6)
  (I c λh =>
 Y (h,b))
  (Y (false,b))))
  (R ((Expr.kind a)==6)
  (I c λi =>
 Y (i,b))
  (Y (false,b))))
  (R ((Expr.kind a)==6)
  (I c λj =>
 Y (j,b))
  (Y (false,b))):T ((Bool×AM.Expr×AM.Expr))) λ(k,o,p) =>
 R k
  (Y (zF false))
  (Y (zG ())))
  (Y (zG ())):T (Unit⊕Bool))<|zK (λ_ =>
 I ((jm e) (Expr.kids a) (λl=>(j5 e) l d)) λm =>
 Y (!m))
  (λn =>
 Y n)
def iB(e:AM.Expr)(fields:zo):T Bool:=T.fix (λF x=>dC (λy0 y1=>F (y0,y1)) x.1 x.2) (e,fields)
def oq(e:Form)(c:qp)(d:Int):(Int×zo)->T ((Int×zo)⊕zo)
 | (b,a) =>
 R (zA (b<d))
  (oI b c<|oA a 16<|oM (a.length+1) (a++([(nth c b (zb qq)).1]:List zn)).length<|Y (zG ((q9 (b+1)),(a++([(nth c b (zb qq)).1]:List zn)))))
  (oC a<|W a<|Y (zF a))
def om f1 x x1 s:=zJ (oq f1 x x1) s
def ov(e:qz)(j:Int):(Int×zo)->T ((Int×zo)⊕(zo⊕(Int×zn×zo)))
 | (d,a)=>let b:=nth e d (zb xl);
 R (zA (d<j))
  (oI d e<|I (W a<|I (iB (Expr.mk (Expr.kind b.2.2.2.1) ((Expr.num b.2.2.2.1).1,((Expr.num b.2.2.2.1).2.1,((Expr.num b.2.2.2.1).2.2.1,()))) (Expr.name b.2.2.2.1) (Expr.kids b.2.2.2.1)) (zH 0 (zI (0+a.length) a))) λf =>
 R (!f)
  (oC a<|W a<|Y (true,(a,b)))
  (W a<|I (iB (Expr.mk (Expr.kind b.2.2.2.2.1) ((Expr.num b.2.2.2.2.1).1,((Expr.num b.2.2.2.2.1).2.1,((Expr.num b.2.2.2.2.1).2.2.1,()))) (Expr.name b.2.2.2.2.1) (Expr.kids b.2.2.2.2.1)) (zH 0 (zI (0+a.length) a))) λg =>
 oC a<|W a<|Y ((!g),(a,b))):T ((Bool×zo×cf))) λ(h,c,i) =>
 R h
  (W c<|Y (zF (zF (6,(i.1,c)))))
  (oC c<|W c<|Y (zG ((q9 (d+1)),c))))
  (W a<|Y (zF (zG a)))
def oo x3 x4 s:=zJ (ov x3 x4) s
def cx(a:Form):T (Int×zn) :=
 I (ZE a) λc =>
 R (!c)
  (Y (2,[]))
  (R ((zA (64<(a.2.2.2.1.length:Int)))||(zA (64<(a.2.2.2.2.1.length:Int))))
  (Y (3,[]))
  (I (tn a) λd =>
 I (tp d) λ(e,f) =>
 R f
  (Y (5,e))
  (I (fk a) λ(g,h) =>
 R h
  (Y (5,g))
  (oZ<|I (om a a.2.2.2.1 (a.2.2.2.1.length:Int) (0,[])) λb =>
 W b<|I (mY a (zH 0 (zI (0+b.length) b))) λ(i,j) =>
 R j
  (Y (5,i))
  (oC b<|W b<|I (oo a.2.2.2.2.1 (a.2.2.2.2.1.length:Int) (0,b))<|zK (λm =>
 Y (0,[]))
  (λ(k,l,n) =>
 Y (k,l)))))))
def nY(a:Form):T zn :=
 I (ZE a) λb =>
 R (!b)
  (Y [])
  (I (o0 a) λc =>
 Y c)
def strings_Split(a:zn)(b:zn):T zo :=
 .zl (a.length<4294967281/\b.length=1)<|Y (eT (List.headD b 0) a)
def strings_Cut(a:zn)(b:zn):T (zn×zn×Bool) :=
 .zl (a.length<4294967281)<|Y (Uz a b)
def sT(a:Int):T Bool :=
 Y (a==32)
def strings_FieldsFunc(a:zn)(b:Int->T Bool):T zo :=
 .zl (a.length<=4294967296)<|Y (cd 32 [] a)
def ir(c:zn):T zo :=
 I (strings_FieldsFunc c (λa=>sT a)) λb =>
 Y b
def strings_IndexAny(c:zn)(a:zn):T Int :=
 .zl (c.length<4294967281/\2<=a.length/\a.length<4294967281/\(∀ b∈a,b.toNat<128))<|Y (si c a)
def kf(b:zn)(a:zn):T Bool :=
 .zl (((zA ((a.length:Int)<=(b.length:Int)))=true)->(jv 0 (a.length:Int) b.length))<|Y ((zA ((a.length:Int)<=(b.length:Int)))&&(xx (iv 0 (a.length:Int) b) a))
def strings_HasPrefix(b:zn)(c:zn):T Bool :=
 I (kf b c) λa =>
 Y a
def bO  : zf->T (zf⊕(zf))
 | a =>
 .zl (((zA (a.2.1<(a.1.length:Int)))=true)->(xe a.2.1 a.1.length))<|R ((zA (a.2.1<(a.1.length:Int)))&&((vx a.1 a.2.1)==32))
  (Y (zG (a.1,((q9 (a.2.1+1)),(a.2.2.1,(a.2.2.2.1,()))))))
  (Y (zF a))
def bN(s:zf):T (zf):=zJ (bO ) s
def dN(b:zf):T zf :=
 I (bN  b) λa =>
 Y a
def strings_IndexByte(s:zn)(c:Int):T Int:=Y (UR s (byteOf c))
def uJ(e:zn)(f:zf):T (Int×zf) :=
 I (dN f) λb =>
 I (R (zA (b.2.1<(b.1.length:Int)))
  (oI b.2.1 b.1<|I (strings_IndexByte e (vx b.1 b.2.1)) λc =>
 Y ((zA (0<=c)),b))
  (Y (false,b)):T ((Bool×zf))) λ(d,a) =>
 R d
  (oI (q9 ((q9 (a.2.1+1))-1)) a.1<|Y ((vx a.1 (q9 ((q9 (a.2.1+1))-1))),(a.1,((q9 (a.2.1+1)),(a.2.2.1,(a.2.2.2.1,()))))))
  (Y (0,a))
def vp(a:Int)(b:Int)(c:zf):T (zf⊕(xh×zf)) :=
 Y (zF ((a,(b,())),c))
def kH(a:zf):T (zf⊕(xh×zf)) :=
 R (zA (32<=(q9 (a.2.2.1+1))))
  (I (vp 4 (q9 (a.2.1-1)) (a.1,(a.2.1,((q9 (a.2.2.1+1)),(a.2.2.2.1,())))))<|zK (λb =>
 Y (zG b))
  (λ(c,d) =>
 Y (zF (c,d))))
  (Y (zG (a.1,(a.2.1,((q9 (a.2.2.1+1)),(a.2.2.2.1,()))))))
def yr(e:Int->T Bool)(f:Int)(g:Int):zf->T (zf⊕(zf))
 | a =>
 I (R (zA (a.2.1<(a.1.length:Int)))
  (R (zA ((q9 (a.2.1-g))<f))
  (oI a.2.1 a.1<|I (e (vx a.1 a.2.1)) λc =>
 Y (c,a))
  (Y (false,a)))
  (Y (false,a)):T ((Bool×zf))) λ(d,b) =>
 R d
  (Y (zG (b.1,((q9 (b.2.1+1)),(b.2.2.1,(b.2.2.2.1,()))))))
  (Y (zF b))
def cC is most1 from_ s:=zJ (yr is most1 from_) s
def uK(c:Int->T Bool)(d:Int)(b:zf):T (zn×zf) :=
 I (cC c d b.2.1 b) λa =>
 .zl (jv b.2.1 a.2.1 a.1.length)<|Y ((iv b.2.1 a.2.1 a.1),a)
def strings_CutPrefix(a:zn)(b:zn):T (zn×Bool) :=
 Y (Eo a b,List.isPrefixOf b a)
def bz(c:Int):zn->T (zn⊕zn)
 | a=>let b:=q9 ((a.length:Int)-1);
 .zl (((zA (0<(a.length:Int)))=true)->(xe b a.length))<|R ((zA (0<(a.length:Int)))&&((vx a b)==c))
  (.zl (jv 0 b a.length)<|Y (zG (iv 0 b a)))
  (Y (zF a))
def bw c1 s:=zJ (bz c1) s
def strings_trimRightByte(b:zn)(c:Int):T zn :=
 I (bw c b) λa =>
 Y a
def bZ(b:Int):zn->T (zn⊕zn)
 | a =>
 .zl (((zA (0<(a.length:Int)))=true)->(xe 0 a.length))<|R ((zA (0<(a.length:Int)))&&((vx a 0)==b))
  (.zl (jv 1 (a.length:Int) a.length)<|Y (zG (iv 1 (a.length:Int) a)))
  (Y (zF a))
def bY c1 s:=zJ (bZ c1) s
def strings_trimLeftByte(b:zn)(c:Int):T zn :=
 I (bY c b) λa =>
 Y a
def strings_makeASCIISet(a:zn):T ((den (nC .bool 256))×Bool) :=
 .zl (a.length<4294967281/\(∀ (j:Nat) b,a[j]? = some b->b.toNat<128))<|Y (mm a,true)
def vk(b:(den (nC .bool 256)))(a:Int):T Bool :=
 .zl (xe a 256)<|Y (Vc .bool (nC .bool 256) b (zE a))
def uH(d:(den (nC .bool 256))):zn->T (zn⊕zn)
 | a=>let b:=q9 ((a.length:Int)-1);
 R (zA (0<(a.length:Int)))
  (oI b a<|I (vk d (vx a b)) λc =>
 R (!c)
  (Y (zF a))
  (.zl (jv 0 b a.length)<|Y (zG (iv 0 b a))))
  (Y (zF a))
def jQ as1 s:=zJ (uH as1) s
def jH(b:zn)(c:(den (nC .bool 256))):T zn :=
 I (jQ c b) λa =>
 Y a
def j3(c:(den (nC .bool 256))):zn->T (zn⊕zn)
 | a =>
 R (zA (0<(a.length:Int)))
  (oI 0 a<|I (vk c (vx a 0)) λb =>
 R (!b)
  (Y (zF a))
  (.zl (jv 1 (a.length:Int) a.length)<|Y (zG (iv 1 (a.length:Int) a))))
  (Y (zF a))
def kE as1 s:=zJ (j3 as1) s
def jU(b:zn)(c:(den (nC .bool 256))):T zn :=
 I (kE c b) λa =>
 Y a
def cH(b:zn)(a:zn):T zn :=
 R ((xx b [])||(xx a []))
  (Y b)
  (.zl ((((a.length:Int)==1)=true)->(xe 0 a.length))<|R (((a.length:Int)==1)&&(zA ((vx a 0)<128)))
  (oI 0 a<|I (strings_trimRightByte b (vx a 0)) λd =>
 oI 0 a<|I (strings_trimLeftByte d (vx a 0)) λe =>
 Y e)
  (I (strings_makeASCIISet a) λ(c,f) =>
 R f
  (I (jH b c) λg =>
 I (jU g c) λh =>
 Y h)
  (.fail)))
def VN(h:z7)(c:z7)(e:z7)(g:Int):(Int×Int×z7)->T ((Int×Int×z7)⊕((Int×z7)))
 | (d,a,b)=>let f:=bif (zA (a<(c.length:Int)))then(xo ((xo (d+(xo (nth e a (zb (.int .u32))))))+(xo (nth c a (zb (.int .u32))))))else(xo (d+(xo (nth e a (zb (.int .u32))))));
 R (zA (a<g))
  (oI a e<|.zl (((zA (a<(c.length:Int)))=true)->(xe a c.length))<|oI a b<|.zl (j6 b.length b.length (0+(zE a)) b.length)<|.zl (0<=(32:Int))<|oM b.length (zL b (0+(zE a)) (kT f)).length<|Y (zG ((j8 .u64 f 32),((q9 (a+1)),(zL b (0+(zE a)) (kT f))))))
  (oC b<|W b<|Y (zF (d,b)))
def VM a2 b2 x x1 s:=zJ (VN a2 b2 x x1) s
def J3(h:z7)(i:z7):T z7 :=
 I (ue h) λc =>
 I (ue i) λd=>let e:=bif (zA ((c.length:Int)<(d.length:Int)))then d else c; let a:=(e.length:Int);
 .zl (dS (q9 (a+1)) (q9 (a+1)) 4)<|oM (zE (q9 (a+1))) (zM (zE (q9 (a+1))) (0:Int)).length<|I (VM e (bif (zA ((c.length:Int)<(d.length:Int)))then c else d) e a (0,(0,(zM (zE (q9 (a+1))) 0)))) λ(f,b) =>
 oI a b<|.zl (j6 b.length b.length (0+(zE a)) b.length)<|W b<|I (ue (zH 0 (zI (0+b.length) (zL b (0+(zE a)) (kT f))))) λg =>
 Y g
def Qk(c:zn)(g:Int):(z7×Int)->T ((z7×Int)⊕z7)
 | (b,a) =>
 R (zA (a<g))
  (I (iY b ([10]:List Int)) λd =>
 oI a c<|I (iZ (xo (wu8 ((vx c a)-48)))) λe =>
 I (J3 d e) λf =>
 Y (zG (f,(q9 (a+1)))))
  (Y (zF b))
def Qj s1 x1 s:=zJ (Qk s1 x1) s
def mL(a:zn):T (z7×Bool) :=
 I (R (xx a [])
  (Y true)
  (R (zA (400<(a.length:Int)))
  (Y true)
  (I (cH a [48,49,50,51,52,53,54,55,56,57]) λb =>
 Y (!(xx b [])))):T Bool) λc =>
 R c
  (Y ([],false))
  (I (Qj a (a.length:Int) ([],0)) λd =>
 Y (d,true))
def rb(f:zn):T (Rat×Int) :=
 R (zA (400<(f.length:Int)))
  (Y ((false,(([]:List Int),(([]:List Int),()))),3))
  (I (strings_CutPrefix f [45]) λ(c,d) =>
 I (strings_Cut c [46]) λ(b,a,g) =>
 R g
  (I (mL a) λ(t,h) =>
 oK b a<|I (mL (cat b a)) λ(i,j) =>
 R ((xx b [])||((!h)||(!j)))
  (Y ((false,(([]:List Int),(([]:List Int),()))),2))
  (I (UA (a.length:Int)) λk =>
 I (sE d i k) λl =>
 Y (l,0)))
  (I (strings_Cut c [47]) λ(m,n,o) =>
 I (mL m) λ(p,q) =>
 I (mL (bif (!o)then[49]else n)) λ(e,r) =>
 R ((!q)||((!r)||((e.length:Int)==0)))
  (Y ((false,(([]:List Int),(([]:List Int),()))),2))
  (I (sE d p e) λs =>
 Y (s,0))))
def kG(i:zf):T ((AM.Expr×zf)⊕(xh×zf)) :=
 I (uK (λe=>jz e) (i.1.length:Int) i) λ(c,a) =>
 I (.zl (((zA (a.2.1<(a.1.length:Int)))=true)->(xe a.2.1 a.1.length))<|R ((zA (a.2.1<(a.1.length:Int)))&&((vx a.1 a.2.1)==46))
  (I (uK (λe=>jz e) (a.1.length:Int) (a.1,((q9 (a.2.1+1)),(a.2.2.1,(a.2.2.2.1,()))))) λ(b,f) =>
 R (xx b [])
  (I (vp 2 f.2.1 f)<|zK (λj =>
 oK [46] b<|oK c (cat [46] b)<|Y (zG ((cat c (cat [46] b)),(j,(Expr.mk 0 (false,([],([],()))) [] [])))))
  (λ(k,l) =>
 Y (zF (k,(l,(Expr.mk 0 (false,([],([],()))) [] []))))))
  (oK [46] b<|oK c (cat [46] b)<|Y (zG ((cat c (cat [46] b)),(f,(Expr.mk 0 (false,([],([],()))) [] []))))))
  (Y (zG (c,(a,(Expr.mk 0 (false,([],([],()))) [] []))))):T ((zn×zf×AM.Expr)⊕(xh×zf×AM.Expr)))<|zK (λ(h,d,o) =>
 R (zA (400<(h.length:Int)))
  (Y (zG ((Expr.mk 1 (false,([],([],()))) [] []),(d.1,(d.2.1,(d.2.2.1,(true,())))))))
  (I (rb h) λ(g,p) =>
 Y (zG ((Expr.mk 1 (g.1,(g.2.1,(g.2.2.1,()))) [] []),d))))
  (λ(m,n,q) =>
 Y (zF (m,n)))
def uB(hd:zf->T ((AM.Expr×zf)⊕(xh×zf)))(oE:zf->T ((AM.Expr×zf)⊕(xh×zf)))(h2:zf):T ((AM.Expr×zf)⊕(xh×zf)) :=
 I (uJ [45,40] h2) λ(h,a)=>let j:=(a,(Expr.mk 0 (false,([],([],()))) [] []));
 R (h==45)
  (I (kH a)<|zK (λk =>
 I (hd k)<|zK (λ(l,c) =>
 Y (zG ((Expr.mk 7 (false,([],([],()))) [] [l]),(c.1,(c.2.1,((q9 (c.2.2.1-1)),(c.2.2.2.1,())))))))
  (λ(m,n) =>
 Y (zF (m,n))))
  (λ(o,p) =>
 Y (zF (o,p))))
  (R (h==40)
  (I (kH a)<|zK (λq =>
 I (oE q)<|zK (λ(r,s)=>let g:=((Expr.mk 0 (false,([],([],()))) [] []),r);
 I (I (uJ [41] s) λ(t,e) =>
 R (t==0)
  (I (vp 2 e.2.1 e)<|zK (λu =>
 Y (zG (u,g)))
  (λ(v,w) =>
 Y (zF (v,(w,g)))))
  (Y (zG (e,g))):T ((zf×AM.Expr×AM.Expr)⊕(xh×zf×AM.Expr×AM.Expr)))<|zK (λ(d,zB,x) =>
 Y (zG (x,(d.1,(d.2.1,((q9 (d.2.2.1-1)),(d.2.2.2.1,())))))))
  (λ(y,z,z6,aa) =>
 Y (zF (y,z))))
  (λ(A,hl) =>
 Y (zF (A,hl))))
  (λ(C,D) =>
 Y (zF (C,D))))
  (I (R (zA (a.2.1<(a.1.length:Int)))
  (oI a.2.1 a.1<|I (jz (vx a.1 a.2.1)) λκ' =>
 Y (κ',j))
  (Y (false,j)):T ((Bool×zf×AM.Expr))) λ(G,b,i) =>
 R G
  (I (kG b)<|zK (λ(H,zC) =>
 Y (zG (H,zC)))
  (λ(hb,K) =>
 Y (zF (hb,K))))
  (I (R (zA (b.2.1<(b.1.length:Int)))
  (oI b.2.1 b.1<|I (yG (vx b.1 b.2.1)) λL =>
 Y (L,(b,i)))
  (Y (false,(b,i))):T ((Bool×zf×AM.Expr))) λ(M,f,ab) =>
 R M
  (I (uK (λN=>yq N) 24 f) λ(κ,P) =>
 Y (zG ((Expr.mk 2 (false,([],([],()))) κ []),P)))
  (I (vp 2 f.2.1 f)<|zK (λzD =>
 Y (zG ((Expr.mk 0 (false,([],([],()))) [] []),zD)))
  (λ(S,hx) =>
 Y (zF (S,hx)))))))
def vG(kI:zf->T ((AM.Expr×zf)⊕(xh×zf)))(p:zf):T ((AM.Expr×zf)⊕(xh×zf)):=T.fix (λF x=>uB (λy0=>F (y0)) kI x) p
def vi(l:zf->T ((AM.Expr×zf)⊕(xh×zf)))(f:zn)(m:xh):(zf×AM.Expr×AM.Expr)->T ((zf×AM.Expr×AM.Expr)⊕((zf×AM.Expr×AM.Expr)⊕(xh×zf×AM.Expr×AM.Expr)))
 | (k,e,a) =>
 I (uJ f k) λ(b,c) =>
 R (b==0)
  (Y (zF (zG (c,(a,a)))))
  (I ((vG l) c)<|zK (λ(g,h) =>
 I (strings_IndexByte f b) λd =>
 .zl (xe d 2)<|Y (zG (h,(e,(Expr.mk (Vc (.int .i64) uy m (zE d)) (false,([],([],()))) [] [a,g])))))
  (λ(i,j) =>
 Y (zF (zF (i,(j,(e,a)))))))
def vf kI marks1 kinds1 s:=zJ (vi kI marks1 kinds1) s
def wm(a:zf->T ((AM.Expr×zf)⊕(xh×zf)))(p:Unit)(j:zn)(k:xh)(l:zf):T ((AM.Expr×zf)⊕(xh×zf)) :=
 I ((vG a) l)<|zK (λ(b,c) =>
 I (vf a j k (c,((Expr.mk 0 (false,([],([],()))) [] []),b)))<|zK (λ(d,e,m) =>
 Y (zG (e,d)))
  (λ(f,g,n,o) =>
 Y (zF (f,g))))
  (λ(h,i) =>
 Y (zF (h,i)))
def vv(e:zf->T ((AM.Expr×zf)⊕(xh×zf)))(f:zf):T ((AM.Expr×zf)⊕(xh×zf)) :=
 I ((wm e) () [42,47] ((5:Int),((6:Int),())) f)<|zK (λ(a,b) =>
 Y (zG (a,b)))
  (λ(c,d) =>
 Y (zF (c,d)))
def wY(l:zf->T ((AM.Expr×zf)⊕(xh×zf)))(f:zn)(m:xh):(zf×AM.Expr×AM.Expr)->T ((zf×AM.Expr×AM.Expr)⊕((zf×AM.Expr×AM.Expr)⊕(xh×zf×AM.Expr×AM.Expr)))
 | (k,e,a) =>
 I (uJ f k) λ(b,c) =>
 R (b==0)
  (Y (zF (zG (c,(a,a)))))
  (I ((vv l) c)<|zK (λ(g,h) =>
 I (strings_IndexByte f b) λd =>
 .zl (xe d 2)<|Y (zG (h,(e,(Expr.mk (Vc (.int .i64) uy m (zE d)) (false,([],([],()))) [] [a,g])))))
  (λ(i,j) =>
 Y (zF (zF (i,(j,(e,a)))))))
def wX kI marks1 kinds1 s:=zJ (wY kI marks1 kinds1) s
def wk(a:zf->T ((AM.Expr×zf)⊕(xh×zf)))(p:Unit)(j:zn)(k:xh)(l:zf):T ((AM.Expr×zf)⊕(xh×zf)) :=
 I ((vv a) l)<|zK (λ(b,c) =>
 I (wX a j k (c,((Expr.mk 0 (false,([],([],()))) [] []),b)))<|zK (λ(d,e,m) =>
 Y (zG (e,d)))
  (λ(f,g,n,o) =>
 Y (zF (f,g))))
  (λ(h,i) =>
 Y (zF (h,i)))
def yh(e:zf->T ((AM.Expr×zf)⊕(xh×zf)))(f:zf):T ((AM.Expr×zf)⊕(xh×zf)) :=
 I ((wk e) () [43,45] ((3:Int),((4:Int),())) f)<|zK (λ(a,b) =>
 Y (zG (a,b)))
  (λ(c,d) =>
 Y (zF (c,d)))
def dt(p:zf):T ((AM.Expr×zf)⊕(xh×zf)):=T.fix (λF x=>yh (λy0=>F (y0)) x) p
def gV(a:AM.Expr)(b:Int)(c:Int):T (AM.Expr×Int×Int) :=
 R false
  (.fail)
  (Y (a,(b,c)))
def gu(a:xh)(b:AM.Expr)(c:Int)(d:Int):T (AM.Expr×Int×Int) :=
 R true
  (R (!true)
  (.fail)
  (Y ((Expr.mk 0 (false,([],([],()))) [] []),(a.2.1,a.1))))
  (Y (b,(c,d)))
def iU(t:zf):T (AM.Expr×Int×Int×zf) :=
 I (dt t)<|zK (λ(b,a) =>
 R (zA (a.2.1<(a.1.length:Int)))
  (I (vp 2 a.2.1 a)<|zK (λc =>
 I (gV b 0 0) λ(d,e,f) =>
 Y (d,(e,(f,c))))
  (λ(g,h) =>
 I (gu g b 0 0) λ(i,j,k) =>
 Y (i,(j,(k,h)))))
  (I (gV b 0 0) λ(l,m,n) =>
 Y (l,(m,(n,a)))))
  (λ(o,p) =>
 I (gu o (Expr.mk 0 (false,([],([],()))) [] []) 0 0) λ(q,r,s) =>
 Y (q,(r,(s,p))))
def sb(i:zn):T (AM.Expr×Int×Int) :=
 I (iU (i,((0:Int),((0:Int),(false,()))))) λ(a,e,b,c)=>let d:=((Expr.mk 0 (false,([],([],()))) [] []),(c,a));
 R (b != 0)
  (Y ((Expr.mk 0 (false,([],([],()))) [] []),(e,b)))
  (I (R c.2.2.2.1
  (Y (true,d))
  (I (iS a) λf =>
 Y ((!f),d)):T ((Bool×AM.Expr×zf×AM.Expr))) λ(g,j,k,h) =>
 R g
  (Y ((Expr.mk 0 (false,([],([],()))) [] []),(0,3)))
  (Y (h,(0,0))))
def strings_Contains(a:zn)(b:zn):T Bool :=
 .zl (a.length<4294967281)<|Y (zA (0<=V8 a b))
def dY(b:zn)(v:zn):T (AM.Expr×AM.Expr×zn×Int) :=
 I (strings_IndexAny b [60,61]) λa=>let c:=iv (q9 (a+1)) (b.length:Int) b;
 R (zA (a<0))
  (Y ((Expr.mk 0 (false,([],([],()))) [] []),((Expr.mk 0 (false,([],([],()))) [] []),([],2))))
  (.zl (jv 0 a b.length)<|.zl (jv (q9 (a+1)) (b.length:Int) b.length)<|.zl (jv a (q9 (a+1)) b.length)<|I (I (R (xx (iv a (q9 (a+1)) b) [60])
  (I (strings_HasPrefix c [61]) λm =>
 Y (m,((Expr.mk 0 (false,([],([],()))) [] []),(Expr.mk 0 (false,([],([],()))) [] []))))
  (Y (false,((Expr.mk 0 (false,([],([],()))) [] []),(Expr.mk 0 (false,([],([],()))) [] [])))):T ((Bool×AM.Expr×AM.Expr))) λ(n,e,f) =>
 R n
  (.zl (jv 1 (c.length:Int) c.length)<|Y ([60,61],((iv 1 (c.length:Int) c),(e,f))))
  (Y ((iv a (q9 (a+1)) b),(c,(e,f)))):T ((zn×zn×AM.Expr×AM.Expr))) λ(g,o,w,p) =>
 I (sb (iv 0 a b)) λ(d,x,h) =>
 R (h != 0)
  (Y (d,(p,([],h))))
  (I (I (sb o) λ(i,y,j) =>
 I (R (j==0)
  (I (strings_Contains v g) λq =>
 Y ((!q),(d,i)))
  (Y (false,(d,i))):T ((Bool×AM.Expr×AM.Expr))) λ(r,k,l) =>
 R r
  (Y (2,(k,l)))
  (Y (j,(k,l))):T ((Int×AM.Expr×AM.Expr))) λ(s,t,u) =>
 Y (t,(u,(g,s)))))
def nZ(a:zo)(b:Int)(c:Int)(d:zn):T Bool :=
 .zl ((((a.length:Int)==b)=true)->(xe c a.length))<|Y (((a.length:Int)==b)&&(xx (nth a c (zb .str)) d))
def dZ(b:zo)(a:Int):T (zn×Bool) :=
 R ((b.length:Int)==a)
  (Y ([],true))
  (I (I (nZ b (q9 (a+2)) a [119,104,101,110]) λc =>
 R c
  (oI (q9 (a+1)) b<|I (uU (nth b (q9 (a+1)) (zb .str))) λd =>
 Y d)
  (Y false):T Bool) λe =>
 R e
  (oI (q9 (a+1)) b<|Y ((nth b (q9 (a+1)) (zb .str)),true))
  (Y ([],false)))
def jK(i:zo)(x:zn)(z:Unit)(k:qf)(l:qi)(j:xb)(m:qp)(n:qz)(o:qt):T (Int×Unit×qf×qi×xb×qp×qz×qt) :=
 let p:=((),(k,(l,(j,(m,(n,o))))));  I (R ((i.length:Int) != 2)
  (oY k l j m n o<|Y (true,p))
  (oI 1 i<|I (uU (nth i 1 (zb .str))) λr =>
 R (!r)
  (oY k l j m n o<|Y (true,p))
  (oY k l j m n o<|Y (((j.length:Int)==0),p))):T ((Bool×Unit×qf×qi×xb×qp×qz×qt))) λ(s,y,e,f,b,g,h,a) =>
 R s
  (oY e f b g h a<|Y (2,((),(e,(f,(b,(g,(h,a))))))))
  (oI 1 i<|I (dY x [60,61]) λ(c,d,t,u) =>
 I (bV) λv =>
 I (wE v t) λw=>let q:=a++([((nth i 1 (zb .str)),((q9 ((b.length:Int)-1)),(w,((Expr.mk (Expr.kind c) ((Expr.num c).1,((Expr.num c).2.1,((Expr.num c).2.2.1,()))) (Expr.name c) (Expr.kids c)),((Expr.mk (Expr.kind d) ((Expr.num d).1,((Expr.num d).2.1,((Expr.num d).2.2.1,()))) (Expr.name d) (Expr.kids d)),())))))]:List Check);
 oA a 240<|oC e<|oC f<|oC b<|oC g<|oC h<|.zl (zu (a.length+1) 0 (a.length+1) q.length)<|W e<|W f<|W b<|W g<|W h<|.zl ((a.length+1)=q.length)<|Y (u,((),(e,(f,(b,(g,(h,q))))))))
def kt(a:zo)(A:zn)(D:Unit)(j:qf)(k:qi)(l:xb)(m:qp)(n:qz)(o:qt):T (Int×Unit×qf×qi×xb×qp×qz×qt) :=
 let p:=((),(j,(k,(l,(m,(n,o))))));  I (R (zA ((a.length:Int)<3))
  (oY j k l m n o<|Y (true,p))
  (I (ye) λr =>
 oI 1 a<|I (wN r (nth a 1 (zb .str))) λs =>
 R (!s)
  (oY j k l m n o<|Y (true,p))
  (oI 2 a<|I (uU (nth a 2 (zb .str))) λt =>
 oY j k l m n o<|Y ((!t),p))):T ((Bool×Unit×qf×qi×xb×qp×qz×qt))) λ(u,hl,c,d,e,f,b,g) =>
 R u
  (oY c d e f b g<|Y (2,((),(c,(d,(e,(f,(b,g))))))))
  (I (dZ a 3) λ(v,w) =>
 R (!w)
  (oY c d e f b g<|Y (2,((),(c,(d,(e,(f,(b,g))))))))
  (oI 2 a<|I (ye) λx =>
 oI 1 a<|I (wE x (nth a 1 (zb .str))) λy =>
 I (dY A [61]) λ(h,i,C,z)=>let q:=b++([((nth a 2 (zb .str)),(y,(v,((Expr.mk (Expr.kind h) ((Expr.num h).1,((Expr.num h).2.1,((Expr.num h).2.2.1,()))) (Expr.name h) (Expr.kids h)),((Expr.mk (Expr.kind i) ((Expr.num i).1,((Expr.num i).2.1,((Expr.num i).2.2.1,()))) (Expr.name i) (Expr.kids i)),())))))]:List cf);
 oA b 248<|oC c<|oC d<|oC e<|oC f<|.zl (zu (b.length+1) 0 (b.length+1) q.length)<|oC g<|W c<|W d<|W e<|W f<|.zl ((b.length+1)=q.length)<|W g<|Y (z,((),(c,(d,(e,(f,(q,g)))))))))
def kl(a:zo)(s:Unit)(h:qf)(i:qi)(j:xb)(k:qp)(l:qz)(m:qt):T (Bool×Unit×qf×qi×xb×qp×qz×qt) :=
 let n:=((),(h,(i,(j,(k,(l,m))))));  I (R ((a.length:Int) != 3)
  (oY h i j k l m<|Y (true,n))
  (oI 1 a<|I (uU (nth a 1 (zb .str))) λp =>
 R (!p)
  (oY h i j k l m<|Y (true,n))
  (oI 2 a<|R (!(xx (nth a 2 (zb .str)) [111,110]))
  (oI 2 a<|oY h i j k l m<|Y ((!(xx (nth a 2 (zb .str)) [111,102,102])),n))
  (oY h i j k l m<|Y (false,n)))):T ((Bool×Unit×qf×qi×xb×qp×qz×qt))) λ(q,r,b,c,d,e,f,g)=>let o:=b++([((nth a 1 (zb .str)),((xx (nth a 2 (zb .str)) [111,110]),()))]:List Switch);
 R q
  (oY b c d e f g<|Y (false,((),(b,(c,(d,(e,(f,g))))))))
  (oI 1 a<|oI 2 a<|oA b 24<|.zl (zu (b.length+1) 0 (b.length+1) o.length)<|oC c<|oC d<|oC e<|oC f<|oC g<|.zl ((b.length+1)=o.length)<|W c<|W d<|W e<|W f<|W g<|Y (true,((),(o,(c,(d,(e,(f,g))))))))
def kY(b:zo)(t:Unit)(h:qf)(i:qi)(j:xb)(k:qp)(l:qz)(m:qt):T (Bool×Unit×qf×qi×xb×qp×qz×qt) :=
 I (R ((b.length:Int) != 3)
  (oY h i j k l m<|Y (true,((),(h,(i,(j,(k,(l,m))))))))
  (oI 1 b<|I (uU (nth b 1 (zb .str))) λp =>
 oY h i j k l m<|Y ((!p),((),(h,(i,(j,(k,(l,m)))))))):T ((Bool×Unit×qf×qi×xb×qp×qz×qt))) λ(q,s,c,a,d,e,f,g) =>
 R q
  (oY c a d e f g<|Y (false,((),(c,(a,(d,(e,(f,g))))))))
  (oI 2 b<|I (rb (nth b 2 (zb .str))) λ(n,r)=>let o:=a++([((nth b 1 (zb .str)),((n.1,(n.2.1,(n.2.2.1,()))),()))]:List Param);
 oI 1 b<|oA a 72<|oC c<|.zl (zu (a.length+1) 0 (a.length+1) o.length)<|oC d<|oC e<|oC f<|oC g<|W c<|.zl ((a.length+1)=o.length)<|W d<|W e<|W f<|W g<|Y ((r==0),((),(c,(o,(d,(e,(f,g))))))))
def ko(b:zo)(t:Unit)(h:qf)(i:qi)(j:xb)(k:qp)(l:qz)(m:qt):T (Bool×Unit×qf×qi×xb×qp×qz×qt) :=
 I (R (zA ((b.length:Int)<2))
  (oY h i j k l m<|Y (true,((),(h,(i,(j,(k,(l,m))))))))
  (oI 1 b<|I (uU (nth b 1 (zb .str))) λo =>
 oY h i j k l m<|Y ((!o),((),(h,(i,(j,(k,(l,m)))))))):T ((Bool×Unit×qf×qi×xb×qp×qz×qt))) λ(p,s,c,d,a,e,f,g) =>
 R p
  (oY c d a e f g<|Y (false,((),(c,(d,(a,(e,(f,g))))))))
  (I (dZ b 2) λ(q,r)=>let n:=a++([((nth b 1 (zb .str)),(q,()))]:List ct);
 oI 1 b<|oA a 32<|oC c<|oC d<|.zl (zu (a.length+1) 0 (a.length+1) n.length)<|oC e<|oC f<|oC g<|W c<|W d<|.zl ((a.length+1)=n.length)<|W e<|W f<|W g<|Y (r,((),(c,(d,(n,(e,(f,g))))))))
def kZ(a:zo)(aa:Unit)(A:qf)(hl:qi)(s:xb)(C:qp)(D:qz)(κ':qt):T (Bool×Unit×qf×qi×xb×qp×qz×qt) :=
 let N:=((),(A,(hl,(s,(C,(D,κ')))))); let b:=(a.length:Int);  I (R (zA (b<2))
  (oY A hl s C D κ'<|Y (true,N))
  (oI 1 a<|I (uU (nth a 1 (zb .str))) λκ =>
 R (!κ)
  (oY A hl s C D κ'<|Y (true,N))
  (oY A hl s C D κ'<|Y (((s.length:Int)==0),N))):T ((Bool×Unit×qf×qi×xb×qp×qz×qt))) λ(P,oE,g,h,c,i,j,k) =>
 R P
  (oY g h c i j k<|Y (false,((),(g,(h,(c,(i,(j,k))))))))
  (oI 1 a<|.zl (jv 2 b a.length)<|I (.zl (((zA (0<(zN (je (e:=.str) 2 b a).length:Int)))=true)->(xe 0 (je (e:=.str) 2 b a).length))<|R ((zA (0<(zN (je (e:=.str) 2 b a).length:Int)))&&(xx (nth (je (e:=.str) 2 b a) 0 (zb .str)) [109,117,115,116]))
  (.zl (jv 1 (zN (je (e:=.str) 2 b a).length:Int) (je (e:=.str) 2 b a).length)<|oY g h c i j k<|Y ((je (e:=.str) 1 (zN (je (e:=.str) 2 b a).length:Int) (je (e:=.str) 2 b a)),((),(g,(h,(c,(i,(j,(k,((nth a 1 (zb .str)),((q9 ((c.length:Int)-1)),(true,((0:Int),())))))))))))))
  (oY g h c i j k<|Y ((je (e:=.str) 2 b a),((),(g,(h,(c,(i,(j,(k,((nth a 1 (zb .str)),((q9 ((c.length:Int)-1)),(false,((0:Int),()))))))))))))):T ((zo×Unit×qf×qi×xb×qp×qz×qt×Field))) λ(d,h2,m,n,o,p,q,r,zD)=>let l:=nth d 1 (zb .str); let G:=((),(m,(n,(o,(p,(q,(r,zD)))))));
 I (I (I (nZ d 2 0 [115,99,97,108,101]) λS =>
 R S
  (oI 1 d<|R ((l.length:Int)==1)
  (oI 1 d<|R (!(strLt l [48]))
  (oI 1 d<|oY m n o p q r<|Y (((strLt l [57])||(xx l [57])),G))
  (oY m n o p q r<|Y (false,G)))
  (oY m n o p q r<|Y (false,G)))
  (oY m n o p q r<|Y (false,G)):T ((Bool×Unit×qf×qi×xb×qp×qz×qt×Field))) λ(hx,zB,t,u,v,w,x,y,z) =>
 R hx
  (oI 1 d<|oI 0 l<|oY t u v w x y<|Y ([],((),(t,(u,(v,(w,(x,(y,(z.1,(z.2.1,(z.2.2.1,((q9 (wu8 ((vx l 0)-48))),())))))))))))))
  (oY t u v w x y<|Y (d,((),(t,(u,(v,(w,(x,(y,z))))))))):T ((zo×Unit×qf×qi×xb×qp×qz×qt×Field))) λ(hd,z6,H,zC,hb,f,K,L,M) =>
 oA f 40<|oC H<|oC zC<|oC hb<|.zl (zu (f.length+1) 0 (f.length+1) (f++[M]).length)<|oC K<|oC L<|W H<|W zC<|W hb<|.zl ((f.length+1)=(f++[M]).length)<|W K<|W L<|Y (((hd.length:Int)==0),((),(H,(zC,(hb,((f++[M]),(K,L))))))))
def j7(ag:zn)(an:Unit)(b:qf)(c:qi)(d:xb)(e:qp)(f:qz)(g:qt):T (Int×Unit×qf×qi×xb×qp×qz×qt) :=
 let j:=((),(b,(c,(d,(e,(f,g))))));  I (strings_Cut ag [58]) λ(z6,K,i) =>
 I (ir z6) λa=>let hb:=zA (0<(a.length:Int)); let h:=nth a 0 (zb .str);
 .zl (((((a.length:Int)==0)=true)->(((!i)=false)->((hb=true)->((xe 0 a.length)/\(xe 0 h.length)))))/\((((a.length:Int)==0)=false)->((hb=true)->((xe 0 a.length)/\(xe 0 h.length)))))<|R (bif ((a.length:Int)==0)then((!i)||(hb&&((vx h 0)==35)))else(hb&&((vx h 0)==35)))
  (oY b c d e f g<|Y (0,j))
  (R ((a.length:Int)==0)
  (R (!false)
  (oY b c d e f g<|Y (2,j))
  (oY b c d e f g<|Y (0,j)))
  (.zl ((i=true)->(xe 0 a.length))<|R (i&&(xx h [99,104,101,99,107]))
  (oY b c d e f g<|I (jK a K () b c d e f g) λ(aa,ah,L,M,N,κ,P,zD) =>
 oY L M N κ P zD<|Y (aa,((),(L,(M,(N,(κ,(P,zD))))))))
  (.zl ((i=true)->(xe 0 a.length))<|R (i&&(xx h [114,117,108,101]))
  (oY b c d e f g<|I (kt a K () b c d e f g) λ(ab,ai,S,hx,hd,oE,h2,zB) =>
 oY S hx hd oE h2 zB<|Y (ab,((),(S,(hx,(hd,(oE,(h2,zB))))))))
  (R i
  (R (!false)
  (oY b c d e f g<|Y (2,j))
  (oY b c d e f g<|Y (0,j)))
  (oI 0 a<|R (xx h [115,119,105,116,99,104])
  (oY b c d e f g<|I (kl a () b c d e f g) λ(ac,aj,k,l,m,n,o,p) =>
 R (!ac)
  (oY k l m n o p<|Y (2,((),(k,(l,(m,(n,(o,p))))))))
  (oY k l m n o p<|Y (0,((),(k,(l,(m,(n,(o,p)))))))))
  (oI 0 a<|R (xx h [112,97,114,97,109])
  (oY b c d e f g<|I (kY a () b c d e f g) λ(ad,ak,q,r,s,t,u,v) =>
 R (!ad)
  (oY q r s t u v<|Y (2,((),(q,(r,(s,(t,(u,v))))))))
  (oY q r s t u v<|Y (0,((),(q,(r,(s,(t,(u,v)))))))))
  (oI 0 a<|R (xx h [112,97,103,101])
  (oY b c d e f g<|I (ko a () b c d e f g) λ(ae,al,w,x,y,z,A,hl) =>
 R (!ae)
  (oY w x y z A hl<|Y (2,((),(w,(x,(y,(z,(A,hl))))))))
  (oY w x y z A hl<|Y (0,((),(w,(x,(y,(z,(A,hl)))))))))
  (oI 0 a<|R (xx h [102,105,101,108,100])
  (oY b c d e f g<|I (kZ a () b c d e f g) λ(af,am,C,D,κ',G,H,zC) =>
 R (!af)
  (oY C D κ' G H zC<|Y (2,((),(C,(D,(κ',(G,(H,zC))))))))
  (oY C D κ' G H zC<|Y (0,((),(C,(D,(κ',(G,(H,zC)))))))))
  (R (!false)
  (oY b c d e f g<|Y (2,j))
  (oY b c d e f g<|Y (0,j)))))))))))
def bU(u:zo)(w:Int):(Int×Unit×Unit×qt×qt×qz×qz×qf×qf×qi×qi×xb×xb×qp×qp)->T ((Int×Unit×Unit×qt×qt×qz×qz×qf×qf×qi×qi×xb×xb×qp×qp)⊕((Unit×Unit×qt×qt×qz×qz×qf×qf×qi×qi×xb×xb×qp×qp)⊕(Int×Int×Form×Unit×qt×qt×qz×qz×qf×qf×qi×qi×xb×xb×qp×qp)))
 | (m,y,z,a,n,b,o,c,p,d,q,e,r,f,s) =>
 R (zA (m<w))
  (oI m u<|oY p q r s o n<|I (j7 (nth u m (zb .str)) () p q r s o n) λ(t,x,g,h,i,j,k,l)=>let v:=((),(a,(l,(b,(k,(c,(g,(d,(h,(e,(i,(f,j))))))))))));
 R (t != 0)
  (oV g h i j k l<|oW a l b k c g<|oW d h e i f j<|Y (zF (zF ((q9 (m+1)),(t,((([]:List Switch),(([]:List Param),(([]:List ct),(([]:List Field),(([]:List cf),(([]:List Check),())))))),v))))))
  (oV c d e f b a<|oV g h i j k l<|oW a l b k c g<|oW d h e i f j<|Y (zG ((q9 (m+1)),((),v)))))
  (oV c d e f b a<|oV p q r s o n<|oW a n b o c p<|oW d q e r f s<|Y (zF (zG ((),((),(a,(n,(b,(o,(c,(p,(d,(q,(e,(r,(f,s))))))))))))))))
def bT x x1 s:=zJ (bU x x1) s
def il(h:zn):T (Form×Int×Int) :=
 R (zA (16384<(h.length:Int)))
  (Y ((([]:List Switch),(([]:List Param),(([]:List ct),(([]:List Field),(([]:List cf),(([]:List Check),())))))),(0,3)))
  (I (strings_Split h [10]) λg =>
 .zl (zu 0 0 0 0)<|.zl (zu 0 0 0 0)<|.zl (zu 0 0 0 0)<|.zl (zu 0 0 0 0)<|.zl (zu 0 0 0 0)<|.zl (zu 0 0 0 0)<|.zl (zu 0 0 0 0)<|.zl (zu 0 0 0 0)<|.zl (zu 0 0 0 0)<|.zl (zu 0 0 0 0)<|.zl (zu 0 0 0 0)<|oZ<|.zl (0=0)<|.zl (0=0)<|.zl (0=0)<|.zl (0=0)<|.zl (0=0)<|.zl (0=0)<|.zl (0=0)<|.zl (0=0)<|.zl (0=0)<|.zl (0=0)<|.zl (0=0)<|I (bT g (g.length:Int) (0,((),((),([],([],([],([],([],([],([],([],([],([],([],[])))))))))))))))<|zK (λ(n,o,p,a,q,b,r,c,s,d,t,e,u,f)=>let i:=((zH 0 (zI (0+c.length) c)),((zH 0 (zI (0+d.length) d)),((zH 0 (zI (0+e.length) e)),((zH 0 (zI (0+f.length) f)),((zH 0 (zI (0+b.length) b)),((zH 0 (zI (0+a.length) a)),()))))));
 oW c d e f b a<|I (ZE i) λj =>
 R (!j)
  (Y ((([]:List Switch),(([]:List Param),(([]:List ct),(([]:List Field),(([]:List cf),(([]:List Check),())))))),(0,2)))
  (oW c d e f b a<|Y (i,(0,0))))
  (λ(k,l,m,v,w,x,y,z,A,hl,C,D,κ',G,H,zC) =>
 Y (m,(k,l))))
def mE(c:Form):T Form :=
 I (nY c) λa =>
 I (il a) λ(b,d,e) =>
 Y b
def gw(a:Int):T Rat :=
 I (iZ (bif (zA (a<0))then(xo (0-(xo a)))else(xo a))) λb =>
 I (iZ 1) λc =>
 Y ((zA (a<0)),(b,(c,())))
def Xu(a:Form)(b:wH):T Bool :=
 Y (((b.2.2.1.length:Int)==(a.2.2.2.1.length:Int))&&(((b.2.2.2.1.length:Int)==(a.2.2.2.2.1.length:Int))&&(((b.2.2.2.2.1.length:Int)==(a.2.2.2.1.length:Int))&&((b.2.2.2.2.2.1.length:Int)==(a.2.2.2.1.length:Int)))))
def cA(a:Rat):T Bool :=
 I (Z3 a) λb =>
 R (!b)
  (Y true)
  (I (cT a) λc =>
 Y c)
def gp(b:zr)(d:Rat->T Bool)(e:Int):Int->T (Int⊕(Unit⊕Int))
 | a =>
 R (zA (a<e))
  (oI a b<|I (d (nth b a (zb zm))) λc =>
 R c
  (Y (zF (zF a)))
  (Y (zG (q9 (a+1)))))
  (Y (zF (zG ())))
def sV s1 f x s:=zJ (gp s1 f x) s
def y6(a:zr)(c:Rat->T Bool):T Int :=
 I (sV a c (a.length:Int) 0)<|zK (λ_ =>
 Y (-1))
  (λb =>
 Y b)
def vz(b:zr)(c:Rat->T Bool):T Bool :=
 I (y6 b c) λa =>
 Y (zA (0<=a))
def sa(c:qp)(d:Int):(Int×zo)->T ((Int×zo)⊕zo)
 | (b,a) =>
 R (zA (b<d))
  (oI b c<|oA a 16<|oM (a.length+1) (a++([(nth c b (zb qq)).1]:List zn)).length<|Y (zG ((q9 (b+1)),(a++([(nth c b (zb qq)).1]:List zn)))))
  (oC a<|W a<|Y (zF a))
def s9 x x1 s:=zJ (sa x x1) s
def tA(b:Form):T zo :=
 oZ<|I (s9 b.2.2.2.1 (b.2.2.2.1.length:Int) (0,[])) λa =>
 W a<|Y (zH 0 (zI (0+a.length) a))
def bH(a:zr):T zr :=
 let b:=0+a.length;  .zl (a=[]->∀ r,T.leads (.zl (vZ 0 0 0 0 0 a.length 56)<|.zl (b=b)<|Y (zH 0 (zI (0+b) a)):T _) r->T.leads (Y []:T _) r)<|.zl (vZ 0 0 0 0 0 a.length 56)<|.zl (b=b)<|Y (zH 0 (zI (0+b) a))
def Xy(h:qi)(i:Int):(Int×(zr×Unit)×(zo×zr×Unit)×zo×zo×zo)->T ((Int×(zr×Unit)×(zo×zr×Unit)×zo×zo×zo)⊕(((zr×Unit)×(zo×zr×Unit)×zo×zo×zo)))
 | (d,g,e,b,c,a)=>let f:=a++([(nth h d (zb qe)).1]:List zn);
 R (zA (d<i))
  (oI d h<|oA a 16<|oC b<|oC c<|.zl (zu (a.length+1) 0 (a.length+1) f.length)<|W b<|W c<|.zl ((a.length+1)=f.length)<|Y (zG ((q9 (d+1)),((g.1,()),((e.1,(e.2.1,())),(b,(c,f)))))))
  (oC b<|oC c<|oC a<|W b<|W c<|W a<|Y (zF ((g.1,()),((e.1,(e.2.1,())),(b,(c,a))))))
def Xx x x1 s:=zJ (Xy x x1) s
def s7(b:Form)(f:zr):T wj :=
 I (tA b) λd =>
 I (bH f) λe =>
 .zl (zu 0 0 0 0)<|.zl (zu 0 0 0 0)<|oZ<|.zl (0=0)<|.zl (0=0)<|I (Xx b.2.1 (b.2.1.length:Int) (0,(([],()),((d,(e,())),([],([],[])))))) λ(g,c,h,i,a) =>
 W a<|Y (c.1,((zH 0 (zI (0+a.length) a)),(c.2.1,())))
def eA(a:Switch)(b:zn):T Bool :=
 Y (xx a.1 b)
def Wt(e:Form)(c:zp)(b:zn):T Bool :=
 I (wb e.1 (λd=>eA d b)) λa =>
 .zl (((xx b [])=false)->(((zA (0<=a))=true)->(xe a c.length)))<|Y ((xx b [])||((zA (0<=a))&&(nth c a (zb .bool))))
def ml(b:zr)(a:Int):T Rat :=
 R ((zA (a<0))||(zA ((b.length:Int)<=a)))
  (I (gw 0) λc =>
 Y c)
  (oI a b<|I (vH (nth b a (zb zm))) λd =>
 Y d)
def Wm(g:zn)(d:wj):T (vM×Int) :=
 I (wE d.1 g) λe =>
 R (zA (0<=e))
  (I (gw 1) λa =>
 I (gw 0) λb =>
 Y (((0:Int),(([(e,((a.1,(a.2.1,(a.2.2.1,()))),()))]:List Term),((b.1,(b.2.1,(b.2.2.1,()))),()))),0))
  (I (wE d.2.1 g) λf =>
 R (zA (f<0))
  (Y (((0:Int),(([]:List Term),((false,(([]:List Int),(([]:List Int),()))),()))),5))
  (I (ml d.2.2.1 f) λc =>
 Y (((0:Int),(([]:List Term),((c.1,(c.2.1,(c.2.2.1,()))),()))),0)))
def pP(f:Rat)(g:Rat):T Rat :=
 I (vH f) λa =>
 I (vH g) λb =>
 I (iY a.2.1 b.2.1) λc =>
 I (iY a.2.2.1 b.2.2.1) λd =>
 I (sE (!(a.1==b.1)) c d) λe =>
 Y e
def ly(b:Rat):T Bool :=
 I (vH b) λa =>
 Y ((a.2.1.length:Int)==0)
def ZO(k:Rat)(f:wC)(l:Int):(Int×(Int×Bool×z7×z7×Unit)×(Int×Bool×z7×z7×Unit)×wC×wC)->T ((Int×(Int×Bool×z7×z7×Unit)×(Int×Bool×z7×z7×Unit)×wC×wC)⊕(((Int×Bool×z7×z7×Unit)×(Int×Bool×z7×z7×Unit)×wC×wC)))
 | (b,c,d,e,a)=>let i:=((c.1,(c.2.1,(c.2.2.1,(c.2.2.2.1,())))),((d.1,(d.2.1,(d.2.2.1,(d.2.2.2.1,())))),(e,a)));
 R (zA (b<l))
  (oI b f<|I (pP ((nth f b (zb qk)).2.1.1,((nth f b (zb qk)).2.1.2.1,((nth f b (zb qk)).2.1.2.2.1,()))) k) λg=>let h:=a++([((nth f b (zb qk)).1,((g.1,(g.2.1,(g.2.2.1,()))),()))]:List Term);
 I (ly g) λj =>
 R (!j)
  (oA a 64<|oC e<|.zl (zu (a.length+1) 0 (a.length+1) h.length)<|W e<|.zl ((a.length+1)=h.length)<|Y (zG ((q9 (b+1)),((c.1,(c.2.1,(c.2.2.1,(c.2.2.2.1,())))),((d.1,(d.2.1,(d.2.2.1,(d.2.2.2.1,())))),(e,h))))))
  (oC e<|oC a<|W e<|W a<|Y (zG ((q9 (b+1)),i))))
  (oC e<|oC a<|W e<|W a<|Y (zF i))
def ZN by_1 x x1 s:=zJ (ZO by_1 x x1) s
def en(b:vM)(e:Rat):T vM :=
 I (pP b.2.2.1 e) λc =>
 .zl (zu 0 0 0 0)<|oZ<|.zl (0=0)<|I (ZN e b.2.1 (b.2.1.length:Int) (0,((0,(false,([],([],())))),((b.1,(c.1,(c.2.1,(c.2.2.1,())))),([],[]))))) λ(f,a,g,d) =>
 W d<|Y (a.1,((zH 0 (zI (0+d.length) d)),((a.2.1,(a.2.2.1,(a.2.2.2.1,()))),())))
def VU(c:z7)(e:z7)(h:Int):(Int×Int×z7)->T ((Int×Int×z7)⊕z7)
 | (g,a,b) =>
 R (zA (a<h))
  (oI a e<|.zl (((zA (a<(c.length:Int)))=true)->(xe a c.length))<|I (yc (nth e a (zb (.int .u32))) (bif (zA (a<(c.length:Int)))then(nth c a (zb (.int .u32)))else 0) g) λ(d,f) =>
 oI a b<|.zl (j6 b.length b.length (0+(zE a)) b.length)<|oM b.length (zL b (0+(zE a)) d).length<|Y (zG (f,((q9 (a+1)),(zL b (0+(zE a)) d)))))
  (oC b<|W b<|Y (zF b))
def VT b2 x x1 s:=zJ (VU b2 x x1) s
def J6(c:z7)(d:z7):T (z7×Bool) :=
 I (tG c d) λe =>
 R (zA (e<0))
  (Y ([],false))
  (I (ue c) λa =>
 I (ue d) λf =>
 .zl (dS (a.length:Int) (a.length:Int) 4)<|oM (zE (a.length:Int)) (zM (zE (a.length:Int)) (0:Int)).length<|I (VT f a (a.length:Int) (0,(0,(zM (zE (a.length:Int)) 0)))) λb =>
 W b<|I (ue (zH 0 (zI (0+b.length) b))) λg =>
 Y (g,true))
def pO(m:Rat)(n:Rat):T Rat :=
 I (vH m) λa =>
 I (vH n) λb =>
 I (iY a.2.1 b.2.2.1) λc =>
 I (iY b.2.1 a.2.2.1) λd =>
 I (iY a.2.2.1 b.2.2.1) λe =>
 R (a.1==b.1)
  (I (J3 c d) λf =>
 I (sE a.1 f e) λg =>
 Y g)
  (I (J6 c d) λ(h,i) =>
 R i
  (I (sE a.1 h e) λj =>
 Y j)
  (I (J6 d c) λ(k,o) =>
 I (sE b.1 k e) λl =>
 Y l))
def Vv  : (wC×wC×(Int×Bool×z7×z7×Unit)×(Int×Bool×z7×z7×Unit)×wC×wC)->T ((wC×wC×(Int×Bool×z7×z7×Unit)×(Int×Bool×z7×z7×Unit)×wC×wC)⊕(((Int×Bool×z7×z7×Unit)×(Int×Bool×z7×z7×Unit)×wC×wC)))
 | (b,a,n,o,c,d)=>let g:=(b.length:Int); let m:=nth a 0 (zb qk); let l:=nth b 0 (zb qk); let p:=(n.1,(n.2.1,(n.2.2.1,(n.2.2.2.1,())))); let q:=(o.1,(o.2.1,(o.2.2.1,(o.2.2.2.1,()))));
 R (zA (0<(q9 (g+(a.length:Int)))))
  (I (.zl ((((a.length:Int)==0)=false)->(((zA (0<g))=true)->((xe 0 b.length)/\(xe 0 a.length))))<|R (((a.length:Int)==0)||((zA (0<g))&&(zA (l.1<m.1))))
  (oI 0 b<|oI 0 b<|I (vH l.2.1) λr =>
 .zl (jv 1 g b.length)<|oC c<|oC d<|W c<|W d<|Y ((je (e:=qk) 1 g b),(a,(p,(q,(c,(d,(l.1,((r.1,(r.2.1,(r.2.2.1,()))),())))))))))
  (.zl (((g==0)=false)->((xe 0 a.length)/\(xe 0 b.length)))<|R ((g==0)||(zA (m.1<l.1)))
  (oI 0 a<|oI 0 a<|I (vH m.2.1) λs =>
 .zl (jv 1 (a.length:Int) a.length)<|oC c<|oC d<|W c<|W d<|Y (b,((je (e:=qk) 1 (a.length:Int) a),(p,(q,(c,(d,(m.1,((s.1,(s.2.1,(s.2.2.1,()))),())))))))))
  (oI 0 b<|oI 0 b<|oI 0 a<|I (pO l.2.1 m.2.1) λt =>
 .zl (jv 1 g b.length)<|.zl (jv 1 (a.length:Int) a.length)<|oC c<|oC d<|W c<|W d<|Y ((je (e:=qk) 1 g b),((je (e:=qk) 1 (a.length:Int) a),(p,(q,(c,(d,(l.1,((t.1,(t.2.1,(t.2.2.1,()))),())))))))))):T ((wC×wC×(Int×Bool×z7×z7×Unit)×(Int×Bool×z7×z7×Unit)×wC×wC×Term))) λ(u,v,h,i,j,f,k) =>
 I (ly (k.2.1.1,(k.2.1.2.1,(k.2.1.2.2.1,())))) λw =>
 R (!w)
  (oA f 64<|oC j<|.zl (zu (f.length+1) 0 (f.length+1) (f++[k]).length)<|W j<|.zl ((f.length+1)=(f++[k]).length)<|Y (zG (u,(v,((h.1,(h.2.1,(h.2.2.1,(h.2.2.2.1,())))),((i.1,(i.2.1,(i.2.2.1,(i.2.2.2.1,())))),(j,(f++[k]))))))))
  (oC j<|oC f<|W j<|W f<|Y (zG (u,(v,((h.1,(h.2.1,(h.2.2.1,(h.2.2.2.1,())))),((i.1,(i.2.1,(i.2.2.1,(i.2.2.2.1,())))),(j,f))))))))
  (oC c<|oC d<|W c<|W d<|Y (zF (p,(q,(c,d)))))
def Vu(s:(wC×wC×(Int×Bool×z7×z7×Unit)×(Int×Bool×z7×z7×Unit)×wC×wC)):T (((Int×Bool×z7×z7×Unit)×(Int×Bool×z7×z7×Unit)×wC×wC)):=zJ (Vv ) s
def Wj(d:vM)(e:vM):T vM :=
 I (pO d.2.2.1 e.2.2.1) λb =>
 .zl (zu 0 0 0 0)<|oZ<|.zl (0=0)<|I (Vu  (d.2.1,(e.2.1,((0,(false,([],([],())))),((d.1,(b.1,(b.2.1,(b.2.2.1,())))),([],[])))))) λ(f,a,g,c) =>
 W c<|Y (a.1,((zH 0 (zI (0+c.length) c)),((a.2.1,(a.2.2.1,(a.2.2.2.1,()))),())))
def tL(d:Rat)(e:Rat):T (Rat×Bool) :=
 I (vH e) λa =>
 R ((a.2.1.length:Int)==0)
  (I (gw 0) λb =>
 Y (b,false))
  (I (pP d (a.1,(a.2.2.1,(a.2.1,())))) λc =>
 Y (c,true))
def ZP(c:Int)(a:vM)(b:vM):T (vM×Int) :=
 R (c==3)
  (I (Wj a b) λd =>
 Y (d,0))
  (R (c==4)
  (I (gw (-1)) λe =>
 I (en b e) λf =>
 I (Wj a f) λg =>
 Y (g,0))
  (R (c==5)
  (R ((zA (0<(a.2.1.length:Int)))&&(zA (0<(b.2.1.length:Int))))
  (Y (((0:Int),(([]:List Term),((false,(([]:List Int),(([]:List Int),()))),()))),6))
  (R (zA (0<(a.2.1.length:Int)))
  (I (en a b.2.2.1) λh =>
 Y (h,0))
  (I (en b a.2.2.1) λi =>
 Y (i,0))))
  (I (gw 1) λj =>
 I (tL j b.2.2.1) λ(k,l) =>
 R (zA (0<(b.2.1.length:Int)))
  (Y (((0:Int),(([]:List Term),((false,(([]:List Int),(([]:List Int),()))),()))),6))
  (R (!l)
  (Y (((0:Int),(([]:List Term),((false,(([]:List Int),(([]:List Int),()))),()))),7))
  (I (en a k) λm =>
 Y (m,0))))))
def eo(g:AM.Expr->wj->T (vM×Int))(a:AM.Expr)(c:wj):T (vM×Int) :=
 R ((Expr.kind a)==1)
  (I (vH (Expr.num a)) λb =>
 Y (((0:Int),(([]:List Term),((b.1,(b.2.1,(b.2.2.1,()))),()))),0))
  (R ((Expr.kind a)==2)
  (I (Wm (Expr.name a) c) λ(h,i) =>
 Y (h,i))
  (oI 0 (Expr.kids a)<|I (g (nth (Expr.kids a) 0 (zb .expr)) c) λ(d,e) =>
 R (e != 0)
  (Y (((0:Int),(([]:List Term),((false,(([]:List Int),(([]:List Int),()))),()))),e))
  (R ((Expr.kind a)==7)
  (I (gw (-1)) λj =>
 I (en d j) λk =>
 Y (k,0))
  (oI 1 (Expr.kids a)<|I (g (nth (Expr.kids a) 1 (zb .expr)) c) λ(l,f) =>
 R (f != 0)
  (Y (((0:Int),(([]:List Term),((false,(([]:List Int),(([]:List Int),()))),()))),f))
  (I (ZP (Expr.kind a) d l) λ(m,n) =>
 Y (m,n))))))
def Yq(e:AM.Expr)(v:wj):T (vM×Int):=T.fix (λF x=>eo (λy0 y1=>F (y0,y1)) x.1 x.2) (e,v)
def YV(a:AM.Expr)(e:wj):T (vM×Int) :=
 I (iS a) λb =>
 R (!b)
  (Y (((0:Int),(([]:List Term),((false,(([]:List Int),(([]:List Int),()))),()))),5))
  (I (Yq a e) λ(c,d) =>
 Y (c,d))
def Q4(b:cf)(g:wj):T (vM×Int) :=
 I (YV b.2.2.2.1 g) λ(c,d) =>
 R (d != 0)
  (Y (c,d))
  (I (YV b.2.2.2.2.1 g) λ(e,f) =>
 R (f != 0)
  (Y (e,f))
  (I (gw (-1)) λh =>
 I (en e h) λi =>
 I (Wj c i) λa =>
 Y ((b.2.1,(a.2.1,((a.2.2.1.1,(a.2.2.1.2.1,(a.2.2.1.2.2.1,()))),()))),0)))
def bn(b:Term):T Bool :=
 I (cT b.2.1) λa =>
 Y a
def yy(b:wC)(d:Term->T Bool)(e:Int):Int->T (Int⊕(Unit⊕Int))
 | a =>
 R (zA (a<e))
  (oI a b<|I (d (nth b a (zb qk))) λc =>
 R c
  (Y (zF (zF a)))
  (Y (zG (q9 (a+1)))))
  (Y (zF (zG ())))
def pW s1 f x s:=zJ (yy s1 f x) s
def kC(a:wC)(c:Term->T Bool):T Int :=
 I (pW a c (a.length:Int) 0)<|zK (λ_ =>
 Y (-1))
  (λb =>
 Y b)
def uf(b:wC)(c:Term->T Bool):T Bool :=
 I (kC b c) λa =>
 Y (zA (0<=a))
def Q3(a:vM):T Bool :=
 I (cT a.2.2.1) λb =>
 R b
  (Y true)
  (I (uf a.2.1 (λc=>bn c)) λd =>
 Y d)
def iP(i:zp)(j:Form)(e:qz)(k:Int):(Int×Unit×Unit×wj×zx×z7)->T ((Int×Unit×Unit×wj×zx×z7)⊕((Unit×Unit×wj×zx×z7)⊕(zn×Int×Unit×Unit×wj×zx×z7)))
 | (c,l,m,d,a,b) =>
 R (zA (c<k))
  (oI c e<|I (Wt j i (nth e c (zb xl)).2.2.1) λh =>
 R (!h)
  (oC a<|oC b<|W a<|W b<|Y (zG ((q9 (c+1)),((),((),(d,(a,b)))))))
  (I (Q4 (nth e c (zb xl)) d) λ(f,g) =>
 R (g != 0)
  (oC a<|oC b<|W a<|W b<|Y (zF (zF ((nth e c (zb xl)).1,(g,((),((),(d,(a,b)))))))))
  (oA a 88<|oA b 8<|.zl (zu (a.length+1) 0 (a.length+1) (a++[f]).length)<|.zl (zu (b.length+1) 0 (b.length+1) (b++[c]).length)<|.zl ((a.length+1)=(a++[f]).length)<|.zl ((b.length+1)=(b++[c]).length)<|Y (zG ((q9 (c+1)),((),((),(d,((a++[f]),(b++[c]))))))))))
  (oC a<|oC b<|W a<|W b<|Y (zF (zG ((),((),(d,(a,b)))))))
def rZ on1 f1 x1 x2 s:=zJ (iP on1 f1 x1 x2) s
def iQ(f:Form)(h:Int):(Int×Unit×Unit×wj×zx×z7)->T ((Int×Unit×Unit×wj×zx×z7)⊕((Unit×Unit×wj×zx×z7)⊕(zn×Int×Unit×Unit×wj×zx×z7)))
 | (c,i,j,e,a,b)=>let d:=0+(zE c);
 R (zA (c<h))
  (oI c a<|.zl (j6 a.length a.length d a.length)<|I (Q3 (wB a d (zb zq))) λg =>
 R g
  (oI c b<|.zl (j6 b.length b.length d b.length)<|oI (wB b d (zb (.int .i64))) f.2.2.2.2.1<|oC a<|oC b<|W a<|W b<|Y (zF (zF ((nth f.2.2.2.2.1 (wB b d (zb (.int .i64))) (zb xl)).1,(8,((),((),(e,(a,b)))))))))
  (oC a<|oC a<|oC b<|W a<|W b<|Y (zG ((q9 (c+1)),((),((),(e,(a,b))))))))
  (oC a<|oC b<|W a<|W b<|Y (zF (zG ((),((),(e,(a,b)))))))
def s6 f2 x6 s:=zJ (iQ f2 x6) s
def nH(a:Form)(f:zr)(h:zp):T (Unit×zn×Int×zx×z7) :=
 I (cx a) λ(g,i) =>
 R (g != 0)
  (.zl (zu 0 0 0 0)<|oZ<|.zl (0=0)<|Y ((),(i,(g,([],[])))))
  (I (R ((f.length:Int) != (a.2.1.length:Int))
  (Y (true,()))
  (R ((h.length:Int) != (a.1.length:Int))
  (Y (true,()))
  (I (vz f (λj=>cA j)) λk =>
 Y (k,()))):T ((Bool×Unit))) λ(l,s) =>
 R l
  (.zl (zu 0 0 0 0)<|oZ<|.zl (0=0)<|Y ((),([],(1,([],[])))))
  (I (s7 a f) λm =>
 .zl (zu 0 0 0 0)<|oZ<|.zl (0=0)<|I (rZ h a a.2.2.2.2.1 (a.2.2.2.2.1.length:Int) (0,((),((),(m,([],[]))))))<|zK (λ(t,u,n,b,c) =>
 oC b<|oC b<|oC c<|W b<|W c<|I (s6 a (b.length:Int) (0,((),((),(n,(b,c))))))<|zK (λ(v,w,x,d,e) =>
 oC d<|oC e<|W d<|W e<|Y ((),([],(0,(d,e)))))
  (λ(o,p,y,z,A,hl,C) =>
 .zl (zu 0 0 0 0)<|oZ<|.zl (0=0)<|Y ((),(o,(p,([],[]))))))
  (λ(q,r,D,κ',G,H,zC) =>
 .zl (zu 0 0 0 0)<|oZ<|.zl (0=0)<|Y ((),(q,(r,([],[])))))))
def U2(c:Bool)(a:Rat):T Rat :=
 I (R c
  (Y (((zA (0<(a.2.1.length:Int))),(a.2.1,(a.2.2.1,()))),(false,(([]:List Int),(([]:List Int),())))))
  (Y ((false,(a.2.1,(a.2.2.1,()))),(false,(([]:List Int),(([]:List Int),()))))):T ((Rat×Rat))) λ(b,d) =>
 Y b
def Qt(c:Rat):T Rat :=
 I (vH c) λa =>
 I (U2 (!a.1) a) λb =>
 Y b
def Dg(c:Int)(d:Rat):T vM :=
 I (gw 1) λa =>
 I (Qt d) λb =>
 Y ((1:Int),(([(c,((a.1,(a.2.1,(a.2.2.1,()))),()))]:List Term),((b.1,(b.2.1,(b.2.2.1,()))),())))
def kV(h:Int)(i:Rat)(f:Int)(a:(qf×qi×xb×qp×qz×qt×Unit))(b:zx)(c:z7)(d:z7):T ((qf×qi×xb×qp×qz×qt×Unit)×zx×z7×z7) :=
 let g:=d++([(q9 ((a.2.2.2.2.1.length:Int)+h))]:List Int);  I (Dg h i) λe =>
 oA b 88<|oA c 8<|oA d 8<|.zl (zu (b.length+1) 0 (b.length+1) (b++[e]).length)<|.zl (zu (c.length+1) 0 (c.length+1) (c++[f]).length)<|.zl (zu (d.length+1) 0 (d.length+1) g.length)<|.zl ((b.length+1)=(b++[e]).length)<|.zl ((c.length+1)=(c++[f]).length)<|.zl ((d.length+1)=g.length)<|Y ((a.1,(a.2.1,(a.2.2.1,(a.2.2.2.1,(a.2.2.2.2.1,(a.2.2.2.2.2.1,())))))),((b++[e]),((c++[f]),g)))
def rV(g:wH)(i:Int):(Int×zx×z7×Unit×(qf×qi×xb×qp×qz×qt×Unit)×z7)->T ((Int×zx×z7×Unit×(qf×qi×xb×qp×qz×qt×Unit)×z7)⊕((zx×z7×Unit×(qf×qi×xb×qp×qz×qt×Unit)×z7)))
 | (c,d,a,j,e,b)=>let h:=(e.1,(e.2.1,(e.2.2.1,(e.2.2.2.1,(e.2.2.2.2.1,(e.2.2.2.2.2.1,())))))); let f:=b++([(nth g.2.2.2.1 (wB a (0+(zE c)) (zb (.int .i64))) (zb (.int .i64)))]:List Int);
 R (zA (c<i))
  (oI c a<|.zl (j6 a.length a.length (0+(zE c)) a.length)<|oI (wB a (0+(zE c)) (zb (.int .i64))) g.2.2.2.1<|oA b 8<|oC a<|W d<|W a<|oC d<|.zl (zu (b.length+1) 0 (b.length+1) f.length)<|oC a<|.zl ((b.length+1)=f.length)<|Y (zG ((q9 (c+1)),(d,(a,((),(h,f)))))))
  (W d<|W a<|oC d<|oC b<|oC a<|W b<|Y (zF (d,(a,((),(h,b))))))
def Xs d1 x s:=zJ (rV d1 x) s
def rW(l:qg)(m:Int):(Int×zx×z7×Unit×(qf×qi×xb×qp×qz×qt×Unit)×z7)->T ((Int×zx×z7×Unit×(qf×qi×xb×qp×qz×qt×Unit)×z7)⊕((zx×z7×Unit×(qf×qi×xb×qp×qz×qt×Unit)×z7)))
 | (d,a,b,n,f,c)=>let g:=nth l d (zb q8); let k:=(f.1,(f.2.1,(f.2.2.1,(f.2.2.2.1,(f.2.2.2.2.1,(f.2.2.2.2.2.1,()))))));
 R (zA (d<m))
  (oI d l<|R (!g.1)
  (W a<|W b<|oC a<|oC c<|oC b<|W c<|Y (zG ((q9 (d+1)),(a,(b,((),(k,c)))))))
  (oC a<|oC c<|oC b<|W a<|W c<|W b<|I (kV d (g.2.2.1.1,(g.2.2.1.2.1,(g.2.2.1.2.2.1,()))) (bif g.2.1 then d else(-1)) k a c b) λ(e,h,i,j) =>
 W h<|W j<|oC h<|oC i<|oC j<|W i<|Y (zG ((q9 (d+1)),(h,(j,((),((e.1,(e.2.1,(e.2.2.1,(e.2.2.2.1,(e.2.2.2.2.1,(e.2.2.2.2.2.1,())))))),i))))))))
  (W a<|W b<|oC a<|oC c<|oC b<|W c<|Y (zF (a,(b,((),(k,c))))))
def Xt x2 x3 s:=zJ (rW x2 x3) s
def dE(a:Form)(d:wH):T ((Int×(qf×qi×xb×qp×qz×qt×Unit)×zx×z7×z7)⊕(zo×Int)) :=
 I (Xu a d) λo =>
 R (!o)
  (Y (zF ([],1)))
  (I (nH a d.1 d.2.1) λ(p,n,f,g,e) =>
 R ((f != 0)&&(!(xx n [])))
  (Y (zF ([n],f)))
  (R (f != 0)
  (Y (zF ([],f)))
  (oC e<|W g<|W e<|oC g<|.zl (zu 0 0 0 0)<|oC e<|.zl (0=0)<|I (Xs d (e.length:Int) (0,(g,(e,((),((a.1,(a.2.1,(a.2.2.1,(a.2.2.2.1,(a.2.2.2.2.1,(a.2.2.2.2.2.1,())))))),[])))))) λ(h,i,q,b,j) =>
 W h<|W i<|oC h<|oC j<|oC i<|W j<|I (Xt d.2.2.2.2.1 (d.2.2.2.2.1.length:Int) (0,(h,(i,((),((b.1,(b.2.1,(b.2.2.1,(b.2.2.2.1,(b.2.2.2.2.1,(b.2.2.2.2.2.1,())))))),j)))))) λ(k,l,r,c,m) =>
 oC k<|oC m<|oC l<|W k<|W m<|W l<|Y (zG (0,((c.1,(c.2.1,(c.2.2.1,(c.2.2.2.1,(c.2.2.2.2.1,(c.2.2.2.2.2.1,())))))),(k,(m,l))))))))
def r8(h:Int)(c:wC)(i:Int):(Int×Int)->T ((Int×Int)⊕(Unit⊕Bool))
 | (g,b)=>let a:=nth c b (zb qk);
 R (zA (b<i))
  (oI b c<|I (R (zA (a.1<g))
  (Y (true,a))
  (R (zA (h<=a.1))
  (Y (true,a))
  (I (Z3 (a.2.1.1,(a.2.1.2.1,(a.2.1.2.2.1,())))) λd =>
 R (!d)
  (Y (true,a))
  (Y (((a.2.1.2.1.length:Int)==0),a)))):T ((Bool×Term))) λ(e,f) =>
 R e
  (Y (zF (zF false)))
  (Y (zG ((q9 (f.1+1)),(q9 (b+1))))))
  (Y (zF (zG ())))
def Za n1 x1 x2 s:=zJ (r8 n1 x1 x2) s
def dB(a:vM)(e:Int):T Bool :=
 I (R (zA (a.1<(0:Int)))
  (Y true)
  (R (zA ((4:Int)<a.1))
  (Y true)
  (I (Z3 a.2.2.1) λb =>
 Y (!b))):T Bool) λc =>
 R c
  (Y false)
  (I (Za e a.2.1 (a.2.1.length:Int) (0,0))<|zK (λ_ =>
 Y true)
  (λd =>
 Y d))
def gq(b:vM)(c:Int):T Bool :=
 I (dB b c) λa =>
 Y (!a)
def ea(b:zx)(d:vM->T Bool)(e:Int):Int->T (Int⊕(Unit⊕Int))
 | a =>
 R (zA (a<e))
  (oI a b<|I (d (nth b a (zb zq))) λc =>
 R c
  (Y (zF (zF a)))
  (Y (zG (q9 (a+1)))))
  (Y (zF (zG ())))
def sU s1 f x s:=zJ (ea s1 f x) s
def bW(a:zx)(c:vM->T Bool):T Int :=
 I (sU a c (a.length:Int) 0)<|zK (λ_ =>
 Y (-1))
  (λb =>
 Y b)
def gn(b:zx)(c:vM->T Bool):T Bool :=
 I (bW b c) λa =>
 Y (zA (0<=a))
def da  : ((Nat×Nat)×Int×z7)->T (((Nat×Nat)×Int×z7)⊕((Int×z7)))
 | (b,c,a)=>let d:=b.1+(zE c); let e:=wB a d (zb (.int .i64)); let f:=zL a d (wB a (b.1+(zE e)) (zb (.int .i64)));
 .zl (xe c b.2)<|.zl (j6 a.length a.length d a.length)<|R (e != c)
  (.zl (xe c b.2)<|.zl (j6 a.length a.length d a.length)<|.zl (xe e b.2)<|.zl (j6 a.length a.length (b.1+(zE e)) a.length)<|.zl (xe c b.2)<|.zl (j6 a.length a.length d a.length)<|.zl (xe c b.2)<|.zl (j6 a.length a.length d f.length)<|W a<|.zl (a.length=f.length)<|Y (zG (b,((wB f d (zb (.int .i64))),f))))
  (W a<|Y (zF (c,a)))
def ma(s:((Nat×Nat)×Int×z7)):T ((Int×z7)):=zJ (da ) s
def yX(d:(Nat×Nat))(e:Int)(a:z7):T (Int×z7) :=
 W a<|W a<|I (ma  (d,(e,a))) λ(c,b) =>
 W b<|Y (c,b)
def bF(c:(Nat×Nat))(g:Int)(h:Int)(e:z7):T (Bool×z7) :=
 W e<|W e<|I (yX c g e) λ(a,f) =>
 .zl (e.length=f.length)<|W f<|I (yX c h f) λ(b,d) =>
 .zl (xe (iA a b) c.2)<|.zl (j6 e.length d.length (c.1+(zE (iA a b))) d.length)<|.zl (d.length=(zL d (c.1+(zE (iA a b))) (V9 a b)).length)<|Y ((a != b),(zL d (c.1+(zE (iA a b))) (V9 a b)))
def oF(d:zx)(e:Int)(c:Int):(Int×z7)->T ((Int×z7)⊕z7)
 | (b,a) =>
 R (zA (b<c))
  (oI b a<|.zl (j6 a.length a.length (0+(zE b)) a.length)<|oM a.length (zL a (0+(zE b)) b).length<|Y (zG ((q9 (b+1)),(zL a (0+(zE b)) b))))
  (oC a<|W a<|Y (zF a))
def oB l1 n1 x s:=zJ (oF l1 n1 x) s
def fq(k:Int)(j:Int)(l:zx)(m:Int)(n:Int):(Int×Int×z7×vM)->T ((Int×Int×z7×vM)⊕((Int×z7×vM)))
 | (f,e,a,b) =>
 R (zA (e<(b.2.1.length:Int)))
  (I (oI 0 b.2.1<|oI e b.2.1<|W a<|W a<|I (bF (0,a.length) (nth b.2.1 0 (zb qk)).1 (nth b.2.1 e (zb qk)).1 a) λ(h,c) =>
 R (!h)
  (.zl (zu a.length 0 a.length c.length)<|W c<|Y ((zA (f<0)),(c,b)))
  (.zl (zu a.length 0 a.length c.length)<|W c<|Y (false,(c,b))):T ((Bool×z7×vM))) λ(i,d,g) =>
 R i
  (oC d<|W d<|Y (zG (j,((q9 (e+1)),(d,g)))))
  (oC d<|W d<|Y (zG (f,((q9 (e+1)),(d,g))))))
  (oC a<|W a<|Y (zF (f,(a,b))))
def oD n3 i x5 x6 x7 s:=zJ (fq n3 i x5 x6 x7) s
def oG(f:Int)(c:zx)(g:Int):(Int×Int×z7)->T ((Int×Int×z7)⊕((Int×z7)))
 | (e,b,a) =>
 R (zA (b<g))
  (oI b c<|I (dB (nth c b (zb zq)) f) λh =>
 R (!h)
  (oC a<|W a<|Y (zG (e,((q9 (b+1)),a))))
  (oC a<|W a<|I (oD f b c g b (e,(1,(a,(nth c b (zb zq)))))) λ(i,d,j) =>
 oC d<|W d<|Y (zG (i,((q9 (b+1)),d)))))
  (oC a<|W a<|Y (zF (e,a)))
def X0 n2 x2 x3 s:=zJ (oG n2 x2 x3) s
def Qb(d:zx)(f:Int):T (z7×Int) :=
 let a:=V9 (iA f 0) 64;  .zl (dS a a 8)<|oM (zE a) (zM (zE a) (0:Int)).length<|I (oB d a (zN (zE a):Int) (0,(zM (zE a) 0))) λb =>
 oC b<|W b<|I (X0 a d (d.length:Int) ((-1),(0,b))) λ(e,c) =>
 W c<|Y ((zH 0 (zI (0+c.length) c)),e)
def nM(b:zx)(c:Int):T Int :=
 I (Qb b c) λ(d,a) =>
 Y a
def ub(a:z7):T z7 :=
 .zl (a=[]->∀ r,T.leads (.zl (vZ 0 0 0 0 0 a.length 8)<|.zl (zu (0+a.length) 0 (0+a.length) a.length)<|.zl ((0+a.length)=a.length)<|Y a:T _) r->T.leads (.zl (zu 0 0 0 0)<|.zl (0=0)<|Y []:T _) r)<|.zl (vZ 0 0 0 0 0 a.length 8)<|oM (0+a.length) a.length<|Y a
def oJ(a:Int)(b:Int):T (Int×Int) :=
 let c:=xo ((xo ((j8 .u64 a 32)*(YY .u64 b 4294967295)))+(j8 .u64 (xo ((YY .u64 a 4294967295)*(YY .u64 b 4294967295))) 32));  .zl (0<=(32:Int))<|.zl (0<=(32:Int))<|.zl (0<=(32:Int))<|.zl (0<=(32:Int))<|.zl (0<=(32:Int))<|Y ((xo ((xo ((xo ((j8 .u64 a 32)*(j8 .u64 b 32)))+(j8 .u64 c 32)))+(j8 .u64 (xo ((YY .u64 c 4294967295)+(xo ((YY .u64 a 4294967295)*(j8 .u64 b 32))))) 32))),(xo (a*b)))
def nt(c:Int)(d:Int):T (Int×Int) :=
 I (oJ c d) λ(a,b) =>
 Y (a,b)
def gH  : (Int×z7)->T ((Int×z7)⊕z7)
 | (b,a)=>let c:=(zE (a.length:Int))-(zE b); let d:=zH (0+(zE 0)) (zI ((0+(zE 0))+((zE b)-(zE 0))) a);
 R (zA (b<(a.length:Int)))
  (.zl (jv b (a.length:Int) a.length)<|.zl (jv 0 b a.length)<|W a<|.zl (Xo a.length a.length (0+(zE b)) c a.length)<|oM a.length (yE (0+(zE b)) c a d).length<|Y (zG ((q9 (b+(zN (DO c d.length):Int))),(yE (0+(zE b)) c a d))))
  (oC a<|W a<|Y (zF a))
def eO(s:(Int×z7)):T z7:=zJ (gH ) s
def yC(c:z7)(e:Int):T z7 :=
 R (zA (e<0))
  (.fail)
  (I (nt (xo (c.length:Int)) (xo e)) λ(f,b)=>let a:=zE (q9 b);
 R ((zA (0<f))||(zA (9223372036854775807<b)))
  (.fail)
  (.zl (dS (q9 b) (q9 b) 8)<|.zl (Xo a a 0 a (zM a (0:Int)).length)<|oM a (yE 0 a (zM a 0) c).length<|I (eO  ((zN (DO a c.length):Int),(yE 0 a (zM a 0) c))) λd =>
 oC d<|W d<|Y d))
def cy(a:Term)(b:Int):T Bool :=
 Y (a.1==b)
def Wp(c:vM)(d:Int):T Bool :=
 I (uf c.2.1 (λa=>cy a d)) λb =>
 Y b
def pH(b:zx)(c:Int):T Bool :=
 I (nM b c) λa =>
 Y (zA (a<0))
def iD(r:zx)(k:z7)(o:Int)(h:zx)(p:Int):(Int×z7×z7×(zx×Unit))->T ((Int×z7×z7×(zx×Unit))⊕((z7×z7×(zx×Unit))⊕(Bool×z7×z7×(zx×Unit))))
 | (d,b,a,g)=>let i:=nth k d (zb (.int .i64)); let f:=0+(zE i);
 R (zA (d<p))
  (oI d h<|I (dB (nth h d (zb zq)) o) λl =>
 R (!l)
  (W b<|W a<|oC b<|oC a<|Y (zF (zF (false,(b,(a,(g.1,())))))))
  (oI d k<|R (i==(-1))
  (W b<|W a<|oC b<|oC a<|Y (zG ((q9 (d+1)),(b,(a,(g.1,()))))))
  (I (I (Wp (nth h d (zb zq)) i) λm =>
 R (!m)
  (W b<|W a<|oC b<|oC a<|Y (true,(b,(a,((g.1,()),(nth h d (zb zq)))))))
  (oI i a<|.zl (j6 a.length a.length f a.length)<|W b<|W a<|oC b<|oC a<|Y (((wB a f (zb (.int .i64))) != (-1)),(b,(a,((g.1,()),(nth h d (zb zq))))))):T ((Bool×z7×z7×(zx×Unit)×vM))) λ(n,e,c,j,q) =>
 R n
  (W e<|W c<|oC e<|oC c<|Y (zF (zF (false,(e,(c,(j.1,())))))))
  (oI i c<|.zl (j6 c.length c.length f c.length)<|W e<|.zl (c.length=(zL c f d).length)<|oC e<|.zl (zu c.length 0 c.length (zL c f d).length)<|Y (zG ((q9 (d+1)),(e,((zL c f d),(j.1,())))))))))
  (W b<|W a<|oC b<|oC a<|Y (zF (zG (b,(a,(g.1,()))))))
def tv l1 outs1 n1 x x1 s:=zJ (iD l1 outs1 n1 x x1) s
def bJ(a:zx)(g:z7)(b:Int):T ((Bool×(zx×Unit)×z7×z7)⊕Bool) :=
 R ((zA (b<1))||((zA (64<b))||((zA (256<(a.length:Int)))||((g.length:Int) != (a.length:Int)))))
  (Y (zF false))
  (I (ub g) λc =>
 I (yC ([(-1)]:List Int) b) λd =>
 W c<|W d<|oC c<|oC d<|I (tv a g b a (a.length:Int) (0,(c,(d,(a,())))))<|zK (λ(e,f,h) =>
 I (pH a b) λi =>
 oC e<|oC f<|W e<|W f<|Y (zG (i,((h.1,()),(e,f)))))
  (λ(j,k,l,m) =>
 Y (zF j)))
def yi(a:z7):T z7 :=
 let b:=0+a.length;  .zl (a=[]->∀ r,T.leads (.zl (vZ 0 0 0 0 0 a.length 8)<|.zl (b=b)<|Y (zH 0 (zI (0+b) a)):T _) r->T.leads (Y []:T _) r)<|.zl (vZ 0 0 0 0 0 a.length 8)<|.zl (b=b)<|Y (zH 0 (zI (0+b) a))
def cmp_isNaN_int(a:Int):T Bool :=
 Y (a != a)
def cmp_Compare_int(a:Int)(b:Int):T Int :=
 I (cmp_isNaN_int a) λd =>
 I (cmp_isNaN_int b) λc =>
 R d
  (R c
  (Y 0)
  (Y (-1)))
  (R c
  (Y 1)
  (R (zA (a<b))
  (Y (-1))
  (R (zA (b<a))
  (Y 1)
  (Y 0))))
def wu(b:Int)(c:Int)(a:zx):T Int :=
 oI b a<|oI c a<|I (cmp_Compare_int (nth a b (zb zq)).1 (nth a c (zb zq)).1) λd =>
 Y d
def uP(l:Int)(n:Int)(m:Int->Int->T Int)(o:Int):((Nat×Nat)×Int×z7)->T (((Nat×Nat)×Int×z7)⊕(((Nat×Nat)×z7)))
 | (d,e,b)=>let f:=q9 (e-1);
 I (R (zA (l<e))
  (.zl (xe e d.2)<|.zl (j6 b.length b.length (d.1+(zE e)) b.length)<|.zl (xe f d.2)<|.zl (j6 b.length b.length (d.1+(zE f)) b.length)<|I (m (wB b (d.1+(zE e)) (zb (.int .i64))) (wB b (d.1+(zE f)) (zb (.int .i64)))) λj =>
 W b<|W b<|Y (d,((zA (j<0)),b)))
  (W b<|W b<|Y (d,(false,b))):T (((Nat×Nat)×Bool×z7))) λ(c,k,a)=>let g:=c.1+(zE e); let h:=c.1+(zE f); let i:=zL a g (wB a h (zb (.int .i64)));
 R k
  (.zl (xe f c.2)<|.zl (j6 a.length a.length h a.length)<|.zl (xe e c.2)<|.zl (j6 a.length a.length g a.length)<|.zl (xe e c.2)<|.zl (j6 a.length a.length g a.length)<|.zl (xe f c.2)<|.zl (j6 a.length a.length h i.length)<|W a<|.zl (a.length=(zL i h (wB a g (zb (.int .i64)))).length)<|Y (zG (c,(f,(zL i h (wB a g (zb (.int .i64))))))))
  (W a<|W a<|Y (zF (c,a)))
def uN a2 b2 cmp i1 s:=zJ (uP a2 b2 cmp i1) s
def uO(g:Int)(d:Int)(h:Int->Int->T Int):((Nat×Nat)×Int×z7)->T (((Nat×Nat)×Int×z7)⊕z7)
 | (f,b,a) =>
 R (zA (b<d))
  (W a<|W a<|I (uN g d h b (f,(b,a))) λ(e,c) =>
 W c<|W c<|Y (zG (e,((q9 (b+1)),c))))
  (W a<|Y (zF a))
def yk a1 b1 cmp s:=zJ (uO a1 b1 cmp) s
def vd(d:(Nat×Nat))(c:Int)(e:Int)(f:Int->Int->T Int)(a:z7):T z7 :=
 W a<|W a<|I (yk c e f (d,((q9 (c+1)),a))) λb =>
 W b<|Y b
def jG(f:Int)(g:Int)(i:Int):((Nat×Nat)×Int×z7)->T (((Nat×Nat)×Int×z7)⊕z7)
 | (c,b,a)=>let d:=c.1+(zE (q9 (g+b))); let e:=c.1+(zE (q9 (f+b))); let h:=zL a e (wB a d (zb (.int .i64)));
 R (zA (b<i))
  (.zl (xe (q9 (g+b)) c.2)<|.zl (j6 a.length a.length d a.length)<|.zl (xe (q9 (f+b)) c.2)<|.zl (j6 a.length a.length e a.length)<|.zl (xe (q9 (f+b)) c.2)<|.zl (j6 a.length a.length e a.length)<|.zl (xe (q9 (g+b)) c.2)<|.zl (j6 a.length a.length d h.length)<|W a<|.zl (a.length=(zL h d (wB a e (zb (.int .i64)))).length)<|Y (zG (c,((q9 (b+1)),(zL h d (wB a e (zb (.int .i64))))))))
  (W a<|Y (zF a))
def gZ a1 b1 n1 s:=zJ (jG a1 b1 n1) s
def va(c:(Nat×Nat))(d:Int)(e:Int)(f:Int)(g:Int->Int->T Int)(a:z7):T z7 :=
 W a<|W a<|I (gZ d e f (c,(0,a))) λb =>
 W b<|Y b
def kL(e:Int)(h:Int->Int->T Int):((Nat×Nat)×Int×Int×z7)->T (((Nat×Nat)×Int×Int×z7)⊕(((Nat×Nat)×Int×z7)))
 | (d,b,c,a) =>
 R (b != c)
  (R (zA (c<b))
  (W a<|W a<|I (va d (q9 (e-b)) e c h a) λf =>
 .zl (a.length=f.length)<|W f<|Y (zG (d,((q9 (b-c)),(c,f)))))
  (W a<|W a<|I (va d (q9 (e-b)) (q9 ((q9 (e+c))-b)) b h a) λg =>
 .zl (a.length=g.length)<|W g<|Y (zG (d,(b,((q9 (c-b)),g))))))
  (W a<|W a<|Y (zF (d,(b,a))))
def kK m1 cmp s:=zJ (kL m1 cmp) s
def jE(h:(Nat×Nat))(i:Int)(a:Int)(j:Int)(f:Int->Int->T Int)(c:z7):T z7 :=
 W c<|W c<|I (kK a f (h,((q9 (a-i)),((q9 (j-a)),c)))) λ(g,d,b) =>
 W b<|W b<|I (va g (q9 (a-d)) a d f b) λe =>
 W e<|Y e
def uq(i:(Nat×Nat)->Int->Int->Int->zx->z7->T z7)(f:Int)(h:zx):((Nat×Nat)×Int×Int×z7)->T (((Nat×Nat)×Int×Int×z7)⊕(((Nat×Nat)×Int×z7)))
 | (b,d,e,a)=>let c:=q9 (j8 .u64 (xo (q9 (d+e))) 1);
 R (zA (d<e))
  (.zl (0<=(1:Int))<|.zl (xe c b.2)<|.zl (j6 a.length a.length (b.1+(zE c)) a.length)<|.zl (xe f b.2)<|.zl (j6 a.length a.length (b.1+(zE f)) a.length)<|I (wu (wB a (b.1+(zE c)) (zb (.int .i64))) (wB a (b.1+(zE f)) (zb (.int .i64))) h) λg =>
 R (zA (g<0))
  (W a<|W a<|Y (zG (b,((q9 (c+1)),(e,a)))))
  (W a<|W a<|Y (zG (b,(d,(c,a))))))
  (W a<|W a<|Y (zF (b,(d,a))))
def ui self_slices_symMergeCmpFunc_int a1 cmp1 s:=zJ (uq self_slices_symMergeCmpFunc_int a1 cmp1) s
def ur(h:(Nat×Nat)->Int->Int->Int->zx->z7->T z7)(g:Int):((Nat×Nat)×Int×z7)->T (((Nat×Nat)×Int×z7)⊕z7)
 | (c,b,a)=>let d:=c.1+(zE b); let e:=c.1+(zE (q9 (b+1))); let f:=zL a d (wB a e (zb (.int .i64)));
 R (zA (b<(q9 (g-1))))
  (.zl (xe (q9 (b+1)) c.2)<|.zl (j6 a.length a.length e a.length)<|.zl (xe b c.2)<|.zl (j6 a.length a.length d a.length)<|.zl (xe b c.2)<|.zl (j6 a.length a.length d a.length)<|.zl (xe (q9 (b+1)) c.2)<|.zl (j6 a.length a.length e f.length)<|W a<|.zl (a.length=(zL f e (wB a d (zb (.int .i64)))).length)<|Y (zG (c,((q9 (b+1)),(zL f e (wB a d (zb (.int .i64))))))))
  (W a<|Y (zF a))
def uj self_slices_symMergeCmpFunc_int i2 s:=zJ (ur self_slices_symMergeCmpFunc_int i2) s
def uu(i:(Nat×Nat)->Int->Int->Int->zx->z7->T z7)(f:Int)(h:zx):((Nat×Nat)×Int×Int×z7)->T (((Nat×Nat)×Int×Int×z7)⊕(((Nat×Nat)×Int×z7)))
 | (b,d,e,a)=>let c:=q9 (j8 .u64 (xo (q9 (d+e))) 1);
 R (zA (d<e))
  (.zl (0<=(1:Int))<|.zl (xe f b.2)<|.zl (j6 a.length a.length (b.1+(zE f)) a.length)<|.zl (xe c b.2)<|.zl (j6 a.length a.length (b.1+(zE c)) a.length)<|I (wu (wB a (b.1+(zE f)) (zb (.int .i64))) (wB a (b.1+(zE c)) (zb (.int .i64))) h) λg =>
 R (!(zA (g<0)))
  (W a<|W a<|Y (zG (b,((q9 (c+1)),(e,a)))))
  (W a<|W a<|Y (zG (b,(d,(c,a))))))
  (W a<|W a<|Y (zF (b,(d,a))))
def uk self_slices_symMergeCmpFunc_int m1 cmp2 s:=zJ (uu self_slices_symMergeCmpFunc_int m1 cmp2) s
def uv(h:(Nat×Nat)->Int->Int->Int->zx->z7->T z7)(g:Int):((Nat×Nat)×Int×z7)->T (((Nat×Nat)×Int×z7)⊕z7)
 | (c,b,a)=>let d:=c.1+(zE b); let e:=c.1+(zE (q9 (b-1))); let f:=zL a d (wB a e (zb (.int .i64)));
 R (zA (g<b))
  (.zl (xe (q9 (b-1)) c.2)<|.zl (j6 a.length a.length e a.length)<|.zl (xe b c.2)<|.zl (j6 a.length a.length d a.length)<|.zl (xe b c.2)<|.zl (j6 a.length a.length d a.length)<|.zl (xe (q9 (b-1)) c.2)<|.zl (j6 a.length a.length e f.length)<|W a<|.zl (a.length=(zL f e (wB a d (zb (.int .i64)))).length)<|Y (zG (c,((q9 (b-1)),(zL f e (wB a d (zb (.int .i64))))))))
  (W a<|Y (zF a))
def um self_slices_symMergeCmpFunc_int i5 s:=zJ (uv self_slices_symMergeCmpFunc_int i5) s
def uw(i:(Nat×Nat)->Int->Int->Int->zx->z7->T z7)(j:Int)(k:Int)(l:Int)(h:zx)(m:Int)(n:Int)(f:Int):((Nat×Nat)×Int×Int×z7)->T (((Nat×Nat)×Int×Int×z7)⊕(((Nat×Nat)×Int×z7)))
 | (b,d,e,a)=>let c:=q9 (j8 .u64 (xo (q9 (d+e))) 1);
 R (zA (d<e))
  (.zl (0<=(1:Int))<|.zl (xe (q9 (f-c)) b.2)<|.zl (j6 a.length a.length (b.1+(zE (q9 (f-c)))) a.length)<|.zl (xe c b.2)<|.zl (j6 a.length a.length (b.1+(zE c)) a.length)<|I (wu (wB a (b.1+(zE (q9 (f-c)))) (zb (.int .i64))) (wB a (b.1+(zE c)) (zb (.int .i64))) h) λg =>
 R (!(zA (g<0)))
  (W a<|W a<|Y (zG (b,((q9 (c+1)),(e,a)))))
  (W a<|W a<|Y (zG (b,(d,(c,a))))))
  (W a<|W a<|Y (zF (b,(d,a))))
def uo self_slices_symMergeCmpFunc_int a2 m2 b1 cmp3 mid n p s:=zJ (uw self_slices_symMergeCmpFunc_int a2 m2 b1 cmp3 mid n p) s
def vA(g:(Nat×Nat)->Int->Int->Int->zx->z7->T z7)(s:(Nat×Nat))(c:Int)(a:Int)(h:Int)(j:zx)(d:z7):T z7 :=
 let b:=q9 (j8 .u64 (xo (q9 (c+h))) 1);  R ((q9 (a-c))==1)
  (W d<|W d<|I (ui g c j (s,(a,(h,d)))) λ(w,x,m) =>
 W m<|W m<|I (uj g x (w,(c,m))) λt =>
 W t<|Y t)
  (R ((q9 (h-a))==1)
  (W d<|W d<|I (uk g a j (s,(c,(a,d)))) λ(y,z,n) =>
 W n<|W n<|I (um g z (y,(a,n))) λu =>
 W u<|Y u)
  (.zl (0<=(1:Int))<|W d<|W d<|I (uo g c a h j b (q9 (b+a)) (q9 ((q9 (b+a))-1)) (s,((bif (zA (b<a))then(q9 ((q9 (b+a))-h))else c),((bif (zA (b<a))then b else a),d)))) λ(o,i,e)=>let l:=q9 ((q9 (b+a))-i);
 I (R ((zA (i<a))&&(zA (a<l)))
  (W e<|W e<|I (jE o i a l (λz0 z1=>wu z0 z1 j) e) λp =>
 .zl (e.length=p.length)<|W p<|Y (o,p))
  (W e<|W e<|Y (o,e)):T (((Nat×Nat)×z7))) λ(q,f) =>
 I (R ((zA (c<i))&&(zA (i<b)))
  (W f<|W f<|I (g q c i b j f) λr =>
 .zl (f.length=r.length)<|W r<|Y (q,r))
  (W f<|W f<|Y (q,f)):T (((Nat×Nat)×z7))) λ(A,k) =>
 R ((zA (b<l))&&(zA (l<h)))
  (W k<|W k<|I (g A b l h j k) λv =>
 W v<|Y v)
  (W k<|Y k)))
def vW(zgy:(Nat×Nat))(a:Int)(m:Int)(b:Int)(cmp:zx)(data:z7):T z7:=T.fix (λF x=>vA (λy0 y1 y2 y3 y4 y5=>F (y0,y1,y2,y3,y4,y5)) x.1 x.2.1 x.2.2.1 x.2.2.2.1 x.2.2.2.2.1 x.2.2.2.2.2) (zgy,a,m,b,cmp,data)
def kP(f:Int)(g:zx)(h:Int):((Nat×Nat)×Int×Int×z7)->T (((Nat×Nat)×Int×Int×z7)⊕(((Nat×Nat)×Int×z7)))
 | (d,e,b,a) =>
 R (zA (b<=f))
  (W a<|W a<|I (vd d e b (λz0 z1=>wu z0 z1 g) a) λc =>
 .zl (a.length=c.length)<|W c<|Y (zG (d,(b,((q9 (b+h)),c)))))
  (W a<|W a<|Y (zF (d,(e,a))))
def kM n1 cmp1 blockSize s:=zJ (kP n1 cmp1 blockSize) s
def kR(g:Int)(h:zx)(f:Int):((Nat×Nat)×Int×Int×z7)->T (((Nat×Nat)×Int×Int×z7)⊕(((Nat×Nat)×Int×z7)))
 | (d,e,b,a) =>
 R (zA (b<=g))
  (W a<|W a<|I (vW d e (q9 (e+f)) b h a) λc =>
 .zl (a.length=c.length)<|W c<|Y (zG (d,(b,((q9 (b+(q9 (2*f)))),c)))))
  (W a<|W a<|Y (zF (d,(e,a))))
def kO n3 cmp3 blockSize2 s:=zJ (kR n3 cmp3 blockSize2) s
def kQ(d:Int)(h:zx):((Nat×Nat)×Int×z7)->T (((Nat×Nat)×Int×z7)⊕z7)
 | (i,b,c) =>
 R (zA (b<d))
  (W c<|W c<|I (kO d h b (i,(0,((q9 (2*b)),c)))) λ(e,f,a) =>
 R (zA ((q9 (f+b))<d))
  (W a<|W a<|I (vW e f (q9 (f+b)) d h a) λg =>
 .zl (a.length=g.length)<|W g<|Y (zG (e,((q9 (b*2)),g))))
  (W a<|W a<|Y (zG (e,((q9 (b*2)),a)))))
  (W c<|Y (zF c))
def kN n2 cmp2 s:=zJ (kQ n2 cmp2) s
def jF(i:(Nat×Nat))(c:Int)(d:zx)(e:z7):T z7 :=
 W e<|W e<|I (kM c d 20 (i,(0,(20,e)))) λ(f,h,a) =>
 W a<|W a<|I (vd f h c (λz0 z1=>wu z0 z1 d) a) λb =>
 .zl (a.length=b.length)<|W b<|I (kN c d (f,(20,b))) λg =>
 W g<|Y g
def uE(c:(Nat×Nat))(d:zx)(a:z7):T z7 :=
 W a<|W a<|I (jF c (zN c.2:Int) d a) λb =>
 W b<|Y b
def cG(b:z7)(c:z7)(d:Int):Int->T (Int⊕(Unit⊕Bool))
 | a =>
 R (zA (a<d))
  (oI a b<|oI a c<|R ((nth b a (zb (.int .i64))) != (nth c a (zb (.int .i64))))
  (Y (zF (zF false)))
  (Y (zG (q9 (a+1)))))
  (Y (zF (zG ())))
def lM s11 s21 x s:=zJ (cG s11 s21 x) s
def yj(a:z7)(b:z7):T Bool :=
 R ((a.length:Int) != (b.length:Int))
  (Y false)
  (I (lM a b (a.length:Int) 0)<|zK (λ_ =>
 Y true)
  (λc =>
 Y c))
def kv(k:Int->(zx×Unit)->z7->z7->T (Int×(zx×Unit)×z7×z7))(l:Int)(h:wC)(m:Int):(Int×Int×(zx×Unit)×z7×z7)->T ((Int×Int×(zx×Unit)×z7×z7)⊕((Int×(zx×Unit)×z7×z7)))
 | (f,c,g,a,b) =>
 R (zA (c<m))
  (oI c h<|R ((nth h c (zb qk)).1 != l)
  (oC a<|oC b<|W a<|W b<|I (k (nth h c (zb qk)).1 (g.1,()) a b) λ(i,j,d,e) =>
 oC d<|oC e<|W d<|W e<|Y (zG ((iA f i),((q9 (c+1)),((j.1,()),(d,e))))))
  (oC a<|oC b<|W a<|W b<|Y (zG (f,((q9 (c+1)),((g.1,()),(a,b)))))))
  (oC a<|oC b<|W a<|W b<|Y (zF (f,((g.1,()),(a,b)))))
def bh self_delta_choice_strong v1 x x1 s:=zJ (kv self_delta_choice_strong v1 x x1) s
def jf(j:Int->(zx×Unit)->z7->z7->T (Int×(zx×Unit)×z7×z7))(e:Int)(b:(zx×Unit))(c:z7)(a:z7):T (Int×(zx×Unit)×z7×z7) :=
 let d:=wB a (0+(zE e)) (zb (.int .i64));  oI e a<|.zl (j6 a.length a.length (0+(zE e)) a.length)<|R (d==(-1))
  (oC c<|oC a<|W c<|W a<|Y (4,((b.1,()),(c,a))))
  (oI d b.1<|oI d b.1<|oC c<|oC a<|W c<|W a<|I (bh j e (nth b.1 d (zb zq)).2.1 (zN (zP (nth b.1 d (zb zq)).2.1):Int) ((nth b.1 d (zb zq)).1,(0,((b.1,()),(c,a))))) λ(h,i,f,g) =>
 oC f<|oC g<|W f<|W g<|Y (h,((i.1,()),(f,g))))
def jR(v:Int)(c:(zx×Unit))(xs:z7)(xs1:z7):T (Int×(zx×Unit)×z7×z7):=T.fix (λF x=>jf (λy0 y1 y2 y3=>F (y0,y1,y2,y3)) x.1 x.2.1 x.2.2.1 x.2.2.2) (v,c,xs,xs1)
def gB(f:wC)(m:Int):(Int×Int×Int×(zx×Unit)×z7×z7×z7)->T ((Int×Int×Int×(zx×Unit)×z7×z7×z7)⊕((Int×(zx×Unit)×z7×z7×z7)))
 | (j,k,a,l,g,d,e) =>
 R (zA (a<m))
  (oI a f<|oC d<|oC e<|W d<|W e<|I (jR (nth f a (zb qk)).1 (l.1,()) d e) λ(h,i,b,c) =>
 .zl (wfI (nth f a (zb qk)).1)<|R ((!(List.contains g (nth f a (zb qk)).1))&&(zA (k<h)))
  (oC b<|oC c<|W b<|W c<|Y (zG ((nth f a (zb qk)).1,(h,((q9 (a+1)),((i.1,()),(g,(b,c))))))))
  (oC b<|oC c<|W b<|W c<|Y (zG (j,(k,((q9 (a+1)),((i.1,()),(g,(b,c)))))))))
  (oC d<|oC e<|W d<|W e<|Y (zF (j,((l.1,()),(g,(d,e))))))
def eI x x1 s:=zJ (gB x x1) s
def yo(b:Int)(a:(zx×Unit))(j:z7)(e:z7)(f:z7):T (Int×(zx×Unit)×z7×z7×z7) :=
 oI b a.1<|oI b a.1<|oC e<|oC f<|W e<|W f<|I (eI (nth a.1 b (zb zq)).2.1 (zN (zP (nth a.1 b (zb zq)).2.1):Int) ((-1),((nth a.1 b (zb zq)).1,(0,((a.1,()),(j,(e,f))))))) λ(g,h,i,c,d) =>
 oC c<|oC d<|W c<|W d<|Y (g,((h.1,()),(i,(c,d))))
def yV(h:Int)(e:wC)(g:Int):(Int×(zx×Unit)×z7×z7×z7)->T ((Int×(zx×Unit)×z7×z7×z7)⊕(((zx×Unit)×z7×z7×z7)))
 | (c,f,a,b,d) =>
 R (zA (c<g))
  (oI c e<|.zl (z45 true (nth e c (zb qk)).1 d)<|oC a<|oC b<|W a<|W b<|Y (zG ((q9 (c+1)),((f.1,()),(a,(b,(d++([(nth e c (zb qk)).1]:List Int))))))))
  (oC a<|oC b<|W a<|W b<|Y (zF ((f.1,()),(a,(b,d)))))
def yT out x x1 s:=zJ (yV out x x1) s
def yU  : (Int×(zx×Unit)×z7×z7×z7)->T ((Int×(zx×Unit)×z7×z7×z7)⊕(((zx×Unit)×z7×z7×z7)⊕((zx×Unit)×z7×z7×z7)))
 | (c,r,f,g,s) =>
 R (c != (-1))
  (oC f<|oC g<|W f<|W g<|I (yo c (r.1,()) s f g) λ(j,l,m,a,b)=>let h:=0+(zE j); let i:=wB b h (zb (.int .i64)); let p:=zL a (0+(zE i)) (-1);
 R (j==(-1))
  (oC a<|oC b<|W a<|W b<|Y (zF (zF ((l.1,()),(a,(b,m))))))
  (oI j b<|.zl (j6 b.length b.length h b.length)<|I (R (i != (-1))
  (oI i a<|.zl (j6 a.length a.length (0+(zE i)) a.length)<|.zl (zu a.length 0 a.length p.length)<|oC b<|.zl (a.length=p.length)<|W b<|Y ((l.1,()),(p,(b,m))))
  (oC a<|oC b<|W a<|W b<|Y ((l.1,()),(a,(b,m)))):T (((zx×Unit)×z7×z7×z7))) λ(k,e,d,t)=>let q:=zL e (0+(zE c)) j;
 oI c e<|.zl (j6 e.length e.length (0+(zE c)) e.length)<|oI j d<|.zl (j6 d.length d.length h d.length)<|oI c k.1<|.zl (zu e.length 0 e.length q.length)<|.zl (zu d.length 0 d.length (zL d h c).length)<|.zl (e.length=q.length)<|.zl (d.length=(zL d h c).length)<|I (yT i (nth k.1 c (zb zq)).2.1 (zN (zP (nth k.1 c (zb zq)).2.1):Int) (0,((k.1,()),(q,((zL d h c),t))))) λ(u,n,o,v) =>
 oC n<|oC o<|W n<|W o<|Y (zG (i,((u.1,()),(n,(o,v)))))))
  (oC f<|oC g<|W f<|W g<|Y (zF (zG ((r.1,()),(f,(g,s))))))
def dD(s:(Int×(zx×Unit)×z7×z7×z7)):T (((zx×Unit)×z7×z7×z7)⊕((zx×Unit)×z7×z7×z7)):=zJ (yU ) s
def kU(i:Int)(j:(zx×Unit))(e:z7)(f:z7):T ((zx×Unit)×z7×z7) :=
 oC e<|oC f<|W e<|W f<|I (dD  (i,((j.1,()),(e,(f,[])))))<|zK (λ(g,a,b,k) =>
 oC a<|oC b<|W a<|W b<|Y ((g.1,()),(a,b)))
  (λ(h,c,d,l) =>
 oC c<|oC d<|W c<|W d<|Y ((h.1,()),(c,d)))
def ow(g:zx)(f:Int):(Int×(zx×Unit)×z7×z7×z7)->T ((Int×(zx×Unit)×z7×z7×z7)⊕(((zx×Unit)×z7×z7×z7)))
 | (d,e,b,c,a) =>
 R (zA (d<f))
  (oA a 8<|.zl (zu (a.length+1) 0 (a.length+1) (a++[d]).length)<|oC b<|oC c<|W b<|W c<|.zl ((a.length+1)=(a++[d]).length)<|Y (zG ((q9 (d+1)),((e.1,()),(b,(c,(a++[d])))))))
  (oC a<|oC b<|oC c<|W b<|W c<|W a<|Y (zF ((e.1,()),(b,(c,a)))))
def QU l1 x s:=zJ (ow l1 x) s
def oy(k:(List Int×Bool))(j:Int):(Int×(zx×Unit)×z7×z7×z7)->T ((Int×(zx×Unit)×z7×z7×z7)⊕(((zx×Unit)×z7×z7×z7)))
 | (d,h,b,c,a)=>let e:=wB a (0+(zE d)) (zb (.int .i64));
 R (zA (d<j))
  (oI d a<|.zl (j6 a.length a.length (0+(zE d)) a.length)<|oI e b<|.zl (j6 b.length b.length (0+(zE e)) b.length)<|R ((wB b (0+(zE e)) (zb (.int .i64)))==(-1))
  (oC b<|oC c<|W b<|W c<|I (kU e (h.1,()) b c) λ(i,f,g) =>
 oC a<|oC a<|oC f<|oC g<|W f<|W g<|W a<|Y (zG ((q9 (d+1)),((i.1,()),(f,(g,a))))))
  (oC a<|oC a<|oC b<|oC c<|W b<|W c<|W a<|Y (zG ((q9 (d+1)),((h.1,()),(b,(c,a)))))))
  (oC a<|oC b<|oC c<|W b<|W c<|W a<|Y (zF ((h.1,()),(b,(c,a)))))
def QW ahead1 x3 s:=zJ (oy ahead1 x3) s
def ox  : ((List Int×Bool)×(zx×Unit)×z7×z7×z7)->T (((List Int×Bool)×(zx×Unit)×z7×z7×z7)⊕(((zx×Unit)×z7×z7×z7)))
 | (l,m,b,e,f) =>
 I (R (!l.2)
  (oC f<|oC b<|oC e<|W b<|W e<|W f<|Y (true,((m.1,()),(b,(e,f)))))
  (W b<|I (yj l.1 (zH 0 (zI (0+b.length) b))) λn =>
 oC f<|oC b<|oC e<|W b<|W e<|W f<|Y ((!n),((m.1,()),(b,(e,f))))):T ((Bool×(zx×Unit)×z7×z7×z7))) λ(o,k,a,d,c)=>let j:=zH 0 (zI (0+a.length) a);
 R o
  (W a<|.zl ((j.length*8)<=140737488355328)<|oC c<|oC c<|oC a<|oC d<|W a<|W d<|W c<|I (QW (j,true) (c.length:Int) (0,((k.1,()),(a,(d,c))))) λ(p,g,h,i) =>
 oC i<|oC g<|oC h<|W g<|W h<|W i<|Y (zG ((j,true),((p.1,()),(g,(h,i))))))
  (oC a<|oC d<|W a<|W d<|W c<|Y (zF ((k.1,()),(a,(d,c)))))
def QV(s:((List Int×Bool)×(zx×Unit)×z7×z7×z7)):T (((zx×Unit)×z7×z7×z7)):=zJ (ox ) s
def pB(b:zx)(i:z7)(p:Int):T (z7×Bool) :=
 I (bJ b i p)<|zK (λ(j,k,c,d) =>
 R (!j)
  (I (yi i) λl =>
 Y (l,false))
  (.zl (zu 0 0 0 0)<|oC c<|oC d<|W c<|W d<|.zl (0=0)<|I (QU b (b.length:Int) (0,((k.1,()),(c,(d,[]))))) λ(m,e,f,a) =>
 W a<|W a<|I (uE (0,a.length) b a) λg =>
 .zl (zu a.length 0 a.length g.length)<|oC e<|oC f<|W e<|W f<|W g<|I (QV  (([],false),((m.1,()),(e,(f,g))))) λ(q,h,r,s) =>
 W h<|Y ((zH 0 (zI (0+h.length) h)),true)))
  (λn =>
 R (!n)
  (I (yi i) λo =>
 Y (o,false))
  (.fail))
def QA(a:vM):T Bool :=
 R ((a.2.1.length:Int)==0)
  (I (ly a.2.2.1) λb =>
 Y b)
  (Y false)
def Zg(c:zx)(d:z7)(e:Int):T Bool :=
 I (bJ c d e)<|zK (λ(a,f,g,h) =>
 Y a)
  (λb =>
 Y b)
def yB(b:z7)(c:Int)(d:Int):Int->T (Int⊕(Unit⊕Int))
 | a =>
 R (zA (a<d))
  (oI a b<|R (c==(nth b a (zb (.int .i64))))
  (Y (zF (zF a)))
  (Y (zG (q9 (a+1)))))
  (Y (zF (zG ())))
def yA s1 v1 x s:=zJ (yB s1 v1 x) s
def uM(a:z7)(c:Int):T Int :=
 I (yA a c (a.length:Int) 0)<|zK (λ_ =>
 Y (-1))
  (λb =>
 Y b)
def jB(b:z7)(c:Int):T Bool :=
 I (uM b c) λa =>
 Y (zA (0<=a))
def dv(b:Term)(c:z7)(d:Int)(a:z7):T (Bool×z7) :=
 oI d c<|R (b.1 != (nth c d (zb (.int .i64))))
  (W a<|I (jB (zH 0 (zI (0+a.length) a)) b.1) λe =>
 oC a<|W a<|Y (e,a))
  (oC a<|W a<|Y (false,a))
def vt(e:wC)(g:Int):((z7×Int×Unit)×Int×z7)->T (((z7×Int×Unit)×Int×z7)⊕(z7⊕(Int×z7)))
 | (d,c,b) =>
 R (zA (c<g))
  (oI c e<|oC b<|W b<|I (dv (nth e c (zb qk)) d.1 d.2.1 b) λ(f,a) =>
 R f
  (oC a<|W a<|Y (zF (zF (c,a))))
  (oC a<|W a<|Y (zG ((d.1,(d.2.1,())),((q9 (c+1)),a)))))
  (oC b<|W b<|Y (zF (zG b)))
def vq s1 x s:=zJ (vt s1 x) s
def vR(d:wC)(e:(z7×Int×Unit))(c:z7):T (Int×z7) :=
 oC c<|W c<|I (vq d (d.length:Int) ((e.1,(e.2.1,())),(0,c)))<|zK (λa =>
 oC a<|W a<|Y ((-1),a))
  (λ(f,b) =>
 oC b<|W b<|Y (f,b))
def wI(e:wC)(c:(z7×Int×Unit))(b:z7):T (Bool×z7) :=
 oC b<|W b<|I (vR e (c.1,(c.2.1,())) b) λ(d,a) =>
 oC a<|W a<|Y ((zA (0<=d)),a)
def lG(b:Int)(d:zx)(f:z7)(a:z7):T (Bool×z7) :=
 oI b a<|.zl (j6 a.length a.length (0+(zE b)) a.length)<|R ((wB a (0+(zE b)) (zb (.int .i64))) != (-1))
  (oI b d<|oC a<|W a<|I (wI (nth d b (zb zq)).2.1 (f,(b,())) a) λ(e,c) =>
 oC c<|W c<|Y ((!e),c))
  (oC a<|W a<|Y (false,a))
def Qy(g:zx):((zx×z7×Unit)×Int×z7×z7)->T (((zx×z7×Unit)×Int×z7×z7)⊕((z7×z7)))
 | (d,c,e,a) =>
 R (zA (c<(g.length:Int)))
  (oC e<|W e<|I (lG c d.1 d.2.1 e) λ(f,b) =>
 R (!f)
  (oC a<|oC b<|W b<|W a<|Y (zG ((d.1,(d.2.1,())),((q9 (c+1)),(b,a)))))
  (oI c b<|.zl (j6 b.length b.length (0+(zE c)) b.length)<|oA a 8<|.zl (zu (a.length+1) 0 (a.length+1) (a++[c]).length)<|oM b.length (zL b (0+(zE c)) (-1)).length<|.zl ((a.length+1)=(a++[c]).length)<|Y (zG ((d.1,(d.2.1,())),(0,((zL b (0+(zE c)) (-1)),(a++[c])))))))
  (oC a<|oC e<|W e<|W a<|Y (zF (e,a)))
def Jr l1 s:=zJ (Qy l1) s
def WS(c:zx)(d:z7)(f:Int):T z7 :=
 I (Zg c d f) λe =>
 R (!e)
  (Y [])
  (I (ub d) λa =>
 .zl (zu 0 0 0 0)<|oC a<|W a<|.zl (0=0)<|I (Jr c ((c,(d,())),(0,(a,[])))) λ(g,b) =>
 W b<|Y (zH 0 (zI (0+b.length) b)))
def lI(j:Int)(g:wC)(k:Int):(Int×zr×Rat×Rat×Rat)->T ((Int×zr×Rat×Rat×Rat)⊕((zr×Rat×Rat×Rat)))
 | (c,a,d,e,f)=>let b:=nth g c (zb qk);
 R (zA (c<k))
  (oI c g<|R (b.1==j)
  (oC a<|W a<|Y (zG ((q9 (c+1)),(a,(d,(e,(b.2.1.1,(b.2.1.2.1,(b.2.1.2.2.1,())))))))))
  (.zl (xe b.1 a.length)<|.zl (j6 a.length a.length (0+(zE b.1)) a.length)<|I (pP (b.2.1.1,(b.2.1.2.1,(b.2.1.2.2.1,()))) (wB a (0+(zE b.1)) (zb zm))) λh =>
 I (pO e h) λi =>
 oC a<|W a<|Y (zG ((q9 (c+1)),(a,(d,(i,f)))))))
  (W a<|Y (zF (a,(d,(e,f)))))
def sI v1 x x1 s:=zJ (lI v1 x x1) s
def tR(a:vM)(j:Int)(b:zr):T (Rat×zr) :=
 I (vH a.2.2.1) λd =>
 I (gw 1) λe =>
 oC b<|W b<|I (sI j a.2.1 (a.2.1.length:Int) (0,(b,((false,(([]:List Int),(([]:List Int),()))),(d,e))))) λ(c,k,f,g) =>
 I (Qt f) λh =>
 I (tL h g) λ(i,l) =>
 W c<|Y (i,c)
def U8(f:zx)(g:z7)(h:zr)(d:zr)(e:Int):(Int×zr)->T ((Int×zr)⊕zr)
 | (b,a) =>
 R (zA (b<e))
  (oI b d<|I (vH (nth d b (zb zm))) λc =>
 oA a 56<|oM (a.length+1) (a++[c]).length<|Y (zG ((q9 (b+1)),(a++[c]))))
  (oC a<|W a<|Y (zF a))
def Hl l1 outs1 val1 x x1 s:=zJ (U8 l1 outs1 val1 x x1) s
def Qz(i:zx)(f:z7)(j:z7)(l:Int):(Int×zr)->T ((Int×zr)⊕(zr⊕(Int×Int×zr)))
 | (d,a)=>let c:=nth j d (zb (.int .i64)); let e:=nth f c (zb (.int .i64));
 R (zA (d<l))
  (oI d j<|oI c i<|oI c f<|oC a<|W a<|I (tR (nth i c (zb zq)) e a) λ(h,b)=>let g:=zL b (0+(zE e)) h;
 I (cT h) λk =>
 R k
  (W b<|Y (zF (zF (c,(8,b)))))
  (oI c f<|oI e a<|.zl (j6 a.length b.length (0+(zE e)) b.length)<|.zl (zu a.length 0 a.length g.length)<|.zl (b.length=g.length)<|Y (zG ((q9 (d+1)),g))))
  (oC a<|W a<|Y (zF (zG a)))
def Hm l2 outs2 x3 x4 s:=zJ (Qz l2 outs2 x3 x4) s
def YN(b:zx)(c:z7)(a:zr):T (zr×Int×Int) :=
 I (Zg b c (a.length:Int)) λg =>
 R (!g)
  (Y ([],((-1),1)))
  (oZ<|I (Hl b c a a (a.length:Int) (0,[])) λd =>
 I (WS b c (a.length:Int)) λf =>
 oC d<|W d<|I (Hm b c f (f.length:Int) (0,d))<|zK (λe =>
 W e<|Y ((zH 0 (zI (0+e.length) e)),((-1),0)))
  (λ(h,i,j) =>
 Y ([],(h,i))))
def sW(m:zx)(n:jk)(f:z7)(g:zx)(k:Int):(Int×jk×Int)->T ((Int×jk×Int)⊕((jk×Int)⊕(Int×Int×jk×Int)))
 | (a,c,d)=>let b:=nth g a (zb zq);
 R (zA (a<k))
  (oI a g<|I (R (b.1==0)
  (oI a f<|R (zA ((nth f a (zb (.int .i64)))<0))
  (I (QA b) λh =>
 Y ((!h),(c,(d,b))))
  (Y (false,(c,(d,b)))))
  (Y (false,(c,(d,b)))):T ((Bool×jk×Int×vM))) λ(i,j,e,l) =>
 R i
  (Y (zF (zF (a,(10,((([]:List Int),(([]:List Rat),())),e))))))
  (Y (zG ((q9 (a+1)),(j,e)))))
  (Y (zF (zG (c,d))))
def W9 l1 s1 outs1 x1 x2 s:=zJ (sW l1 s1 outs1 x1 x2) s
def tV(a:zx)(b:jk):T (jk×Int×Int) :=
 let c:=((([]:List Int),(([]:List Rat),())),(b.2.1.length:Int));  I (R (zA ((b.2.1.length:Int)<1))
  (Y (true,c))
  (R (zA (64<(b.2.1.length:Int)))
  (Y (true,c))
  (R (zA (256<(a.length:Int)))
  (Y (true,c))
  (R ((b.1.length:Int) != (a.length:Int))
  (Y (true,c))
  (I (gn a (λh=>gq h (b.2.1.length:Int))) λi =>
 Y (i,c))))):T ((Bool×jk×Int))) λ(j,k,d) =>
 R j
  (Y ((([]:List Int),(([]:List Rat),())),((-1),1)))
  (I (nM a d) λf =>
 R (zA (0<=f))
  (Y ((([]:List Int),(([]:List Rat),())),(f,9)))
  (I (pB a b.1 d) λ(e,l) =>
 R (!l)
  (Y ((([]:List Int),(([]:List Rat),())),((-1),1)))
  (I (W9 a b e a (a.length:Int) (0,(k,d)))<|zK (λ(r,s) =>
 I (YN a e b.2.1) λ(m,n,g) =>
 R (g != 0)
  (Y ((([]:List Int),(([]:List Rat),())),(n,g)))
  (Y ((e,(m,())),((-1),0))))
  (λ(o,p,q,t) =>
 Y (q,(o,p))))))
def dr(b:Int)(a:ux):T (zo×ux) :=
 let c:=nth a.2.2.2.1 b (zb (.int .i64));  R (zA (b<0))
  (Y ([],a))
  (oI b a.2.2.2.1<|R (zA (c<(a.1.2.2.2.2.1.length:Int)))
  (oI b a.2.2.2.1<|oI c a.1.2.2.2.2.1<|Y (([(nth a.1.2.2.2.2.1 c (zb xl)).1]:List zn),a))
  (oI b a.2.2.2.1<|oI (q9 (c-(a.1.2.2.2.2.1.length:Int))) a.1.2.2.2.1<|Y (([(nth a.1.2.2.2.1 (q9 (c-(a.1.2.2.2.2.1.length:Int))) (zb qq)).1]:List zn),a)))
def kc(g:zr)(a:ux):T (zr×zo×Int×ux) :=
 I (tV a.2.1 (a.2.2.1,(g,()))) λ(b,d,c) =>
 R (c != 0)
  (I (dr d a) λ(e,f) =>
 Y ([],(e,(c,f))))
  (Y (b.2.1,([],(0,((a.1.1,(a.1.2.1,(a.1.2.2.1,(a.1.2.2.2.1,(a.1.2.2.2.2.1,(a.1.2.2.2.2.2.1,())))))),(a.2.1,(b.1,(a.2.2.2.1,()))))))))
def ua(a:zr):T zr :=
 .zl (a=[]->∀ r,T.leads (.zl (vZ 0 0 0 0 0 a.length 56)<|.zl (zu (0+a.length) 0 (0+a.length) a.length)<|.zl ((0+a.length)=a.length)<|Y a:T _) r->T.leads (.zl (zu 0 0 0 0)<|.zl (0=0)<|Y []:T _) r)<|.zl (vZ 0 0 0 0 0 a.length 56)<|oM (0+a.length) a.length<|Y a
def vQ(a:zp):T zp :=
 .zl (a=[]->∀ r,T.leads (.zl (vZ 0 0 0 0 0 a.length 1)<|.zl (zu (0+a.length) 0 (0+a.length) a.length)<|.zl ((0+a.length)=a.length)<|Y a:T _) r->T.leads (.zl (zu 0 0 0 0)<|.zl (0=0)<|Y []:T _) r)<|.zl (vZ 0 0 0 0 0 a.length 1)<|oM (0+a.length) a.length<|Y a
def uG(a:qg):T qg :=
 .zl (a=[]->∀ r,T.leads (.zl (vZ 0 0 0 0 0 a.length 64)<|.zl (zu (0+a.length) 0 (0+a.length) a.length)<|.zl ((0+a.length)=a.length)<|Y a:T _) r->T.leads (.zl (zu 0 0 0 0)<|.zl (0=0)<|Y []:T _) r)<|.zl (vZ 0 0 0 0 0 a.length 64)<|oM (0+a.length) a.length<|Y a
def mz(a:wH):T (Unit×zr×zp×zr×z7×qg×zp) :=
 I (ua a.1) λb =>
 I (vQ a.2.1) λc =>
 I (ua a.2.2.1) λd =>
 I (ub a.2.2.2.1) λe =>
 I (uG a.2.2.2.2.1) λf =>
 I (vQ a.2.2.2.2.2.1) λg =>
 oY b c d e f g<|Y ((),(b,(c,(d,(e,(f,g))))))
def dF(l:Int):(Int×ux×(zr×Unit)×wH×zr×zp×zr×z7×qg×zp)->T ((Int×ux×(zr×Unit)×wH×zr×zp×zr×z7×qg×zp)⊕((ux×(zr×Unit)×wH×zr×zp×zr×z7×qg×zp)))
 | (f,i,j,k,b,c,g,a,d,e)=>let h:=zL a (0+(zE f)) (-1);
 R (zA (f<l))
  (oI f a<|.zl (j6 a.length a.length (0+(zE f)) a.length)<|oC b<|oC c<|.zl (zu a.length 0 a.length h.length)<|oC d<|oC e<|W b<|W c<|W g<|.zl (a.length=h.length)<|W d<|W e<|Y (zG ((q9 (f+1)),(i,((j.1,()),(k,(b,(c,(g,(h,(d,e)))))))))))
  (oC b<|oC c<|oC a<|oC d<|oC e<|oW b c g a d e<|Y (zF (i,((j.1,()),(k,(b,(c,(g,(a,(d,e))))))))))
def nE x s:=zJ (dF x) s
def dG(m:z7)(q:Int):(Int×ux×(zr×Unit)×wH×zr×zp×zr×z7×qg×zp)->T ((Int×ux×(zr×Unit)×wH×zr×zp×zr×z7×qg×zp)⊕((ux×(zr×Unit)×wH×zr×zp×zr×z7×qg×zp)))
 | (f,i,k,l,c,d,g,a,b,e)=>let h:=nth i.2.2.2.1 f (zb (.int .i64)); let n:=zL a (0+(zE h)) (nth m f (zb (.int .i64))); let o:=0+(zE (q9 (h-(a.length:Int)))); let j:=wB b o (zb q8); let p:=zL b o (j.1,(((nth m f (zb (.int .i64))) != (-1)),((j.2.2.1.1,(j.2.2.1.2.1,(j.2.2.1.2.2.1,()))),())));
 R (zA (f<q))
  (oI f m<|oI f i.2.2.2.1<|R (zA (h<(a.length:Int)))
  (oI h a<|.zl (j6 a.length a.length (0+(zE h)) a.length)<|oC c<|oC d<|.zl (zu a.length 0 a.length n.length)<|oC b<|oC e<|W c<|W d<|W g<|.zl (a.length=n.length)<|W b<|W e<|Y (zG ((q9 (f+1)),(i,((k.1,()),(l,(c,(d,(g,(n,(b,e)))))))))))
  (oI (q9 (h-(a.length:Int))) b<|.zl (j6 b.length b.length o b.length)<|oC c<|oC d<|oC a<|.zl (zu b.length 0 b.length p.length)<|oC e<|W c<|W d<|W g<|W a<|.zl (b.length=p.length)<|W e<|Y (zG ((q9 (f+1)),(i,((k.1,()),(l,(c,(d,(g,(a,(p,e))))))))))))
  (oC c<|oC d<|oC a<|oC b<|oC e<|oW c d g a b e<|Y (zF (i,((k.1,()),(l,(c,(d,(g,(a,(b,e))))))))))
def nF x2 x3 s:=zJ (dG x2 x3) s
def gP(w:wH)(x:zr)(y:ux):T ((zr×Unit)×ux×zr×zp×z7×qg×zp) :=
 I (mz w) λ(z,b,c,q,a,d,e) =>
 oC b<|oC c<|oC a<|oC d<|oC e<|oW b c q a d e<|I (nE (a.length:Int) (0,(y,((x,()),((([]:List Rat),(([]:List Bool),(([]:List Rat),(([]:List Int),(([]:List ve),(([]:List Bool),())))))),(b,(c,(q,(a,(d,e)))))))))) λ(f,s,t,g,h,r,i,j,k) =>
 oC g<|oC h<|oC i<|oC j<|oC k<|oW g h r i j k<|I (nF f.2.2.1 (f.2.2.1.length:Int) (0,(f,((s.1,()),(t,(g,(h,(r,(i,(j,k)))))))))) λ(u,v,A,l,m,hl,n,o,p) =>
 oC l<|oC m<|oC n<|oC o<|oC p<|W l<|W m<|W n<|W o<|W p<|Y ((v.1,()),(u,(l,(m,(n,(o,p))))))
def ez(s:Form)(j:wH):T ((zr×Unit)×zo×Int×zr×zp×z7×qg×zp) :=
 I (dE s j)<|zK (λ(k,a,b,c,d) =>
 R (k != 0)
  (.zl (zu 0 0 0 0)<|.zl (zu 0 0 0 0)<|.zl (zu 0 0 0 0)<|.zl (zu 0 0 0 0)<|oZ<|.zl (0=0)<|.zl (0=0)<|.zl (0=0)<|.zl (0=0)<|Y (([],()),([],(k,([],([],([],([],[]))))))))
  (W b<|W c<|W d<|I (kc j.2.2.1 ((a.1,(a.2.1,(a.2.2.1,(a.2.2.2.1,(a.2.2.2.2.1,(a.2.2.2.2.2.1,())))))),((zH 0 (zI (0+b.length) b)),((zH 0 (zI (0+c.length) c)),((zH 0 (zI (0+d.length) d)),()))))) λ(n,o,l,p) =>
 R (l != 0)
  (.zl (zu 0 0 0 0)<|.zl (zu 0 0 0 0)<|.zl (zu 0 0 0 0)<|.zl (zu 0 0 0 0)<|oZ<|.zl (0=0)<|.zl (0=0)<|.zl (0=0)<|.zl (0=0)<|Y (([],()),(o,(l,([],([],([],([],[]))))))))
  (I (gP j n p) λ(q,t,e,f,g,h,i) =>
 oC e<|oC f<|oC g<|oC h<|oC i<|W e<|W f<|W g<|W h<|W i<|Y ((q.1,()),([],(0,(e,(f,(g,(h,i))))))))))
  (λ(r,m) =>
 R (m != 0)
  (.zl (zu 0 0 0 0)<|.zl (zu 0 0 0 0)<|.zl (zu 0 0 0 0)<|.zl (zu 0 0 0 0)<|oZ<|.zl (0=0)<|.zl (0=0)<|.zl (0=0)<|.zl (0=0)<|Y (([],()),(r,(m,([],([],([],([],[]))))))))
  (.fail))
def ZX(s:Form)(n:qi)(p:Int):(Int×Unit×Unit×zp×zp×zp×zp×qg×qg×z7×z7×zr×zr×zr×zr)->T ((Int×Unit×Unit×zp×zp×zp×zp×qg×qg×z7×z7×zr×zr×zr×zr)⊕((Unit×Unit×zp×zp×zp×zp×qg×qg×z7×z7×zr×zr×zr×zr)))
 | (b,q,r,c,d,e,f,g,h,i,j,k,l,a,m) =>
 R (zA (b<p))
  (oI b n<|I (vH ((nth n b (zb qe)).2.1.1,((nth n b (zb qe)).2.1.2.1,((nth n b (zb qe)).2.1.2.2.1,())))) λo =>
 oA a 56<|oV k c l i g d<|.zl (zu (a.length+1) 0 (a.length+1) (a++[o]).length)<|oC e<|oC m<|oC j<|oC h<|oC f<|oW c d e f g h<|W i<|W j<|W k<|W l<|.zl ((a.length+1)=(a++[o]).length)<|W m<|Y (zG ((q9 (b+1)),((),((),(c,(d,(e,(f,(g,(h,(i,(j,(k,(l,((a++[o]),m))))))))))))))))
  (oV k c l i g d<|oV a e m j h f<|oW c d e f g h<|oW i j k l a m<|Y (zF ((),((),(c,(d,(e,(f,(g,(h,(i,(j,(k,(l,(a,m)))))))))))))))
def UC f1 x x1 s:=zJ (ZX f1 x x1) s
def ZY(s:Form)(o:qf)(p:Int):(Int×Unit×Unit×zp×zp×zp×zp×qg×qg×z7×z7×zr×zr×zr×zr)->T ((Int×Unit×Unit×zp×zp×zp×zp×qg×qg×z7×z7×zr×zr×zr×zr)⊕((Unit×Unit×zp×zp×zp×zp×qg×qg×z7×z7×zr×zr×zr×zr)))
 | (m,q,r,b,c,a,d,e,f,g,h,i,j,k,l)=>let n:=a++([(nth o m (zb ql)).2.1]:List Bool);
 R (zA (m<p))
  (oI m o<|oA a 1<|oV i b j g e c<|oC k<|.zl (zu (a.length+1) 0 (a.length+1) n.length)<|oC l<|oC h<|oC f<|oC d<|W b<|W c<|.zl ((a.length+1)=n.length)<|oW d e f g h i<|W j<|W k<|W l<|Y (zG ((q9 (m+1)),((),((),(b,(c,(n,(d,(e,(f,(g,(h,(i,(j,(k,l))))))))))))))))
  (oV i b j g e c<|oV k a l h f d<|oW b c a d e f<|oW g h i j k l<|Y (zF ((),((),(b,(c,(a,(d,(e,(f,(g,(h,(i,(j,(k,l)))))))))))))))
def UD f2 x3 x4 s:=zJ (ZY f2 x3 x4) s
def ZZ(t:Form)(q:Int):(Int×Unit×Unit×zp×zp×zp×zp×qg×qg×z7×z7×zr×zr×zr×zr)->T ((Int×Unit×Unit×zp×zp×zp×zp×qg×qg×z7×z7×zr×zr×zr×zr)⊕((Unit×Unit×zp×zp×zp×zp×qg×qg×z7×z7×zr×zr×zr×zr)))
 | (p,r,s,d,e,f,a,g,c,h,i,j,k,l,b) =>
 R (zA (p<q))
  (I (gw 0) λm =>
 oA b 56<|I (gw 0) λn=>let o:=c++([(false,(false,((n.1,(n.2.1,(n.2.2.1,()))),())))]:List ve);
 oA c 64<|oA a 1<|oV j d k h g e<|oC l<|oC f<|.zl (zu (b.length+1) 0 (b.length+1) (b++[m]).length)<|oC i<|.zl (zu (c.length+1) 0 (c.length+1) o.length)<|.zl (zu (a.length+1) 0 (a.length+1) (a++[false]).length)<|W d<|W e<|W f<|.zl ((a.length+1)=(a++[false]).length)<|W g<|.zl ((c.length+1)=o.length)<|W h<|W i<|W j<|W k<|W l<|.zl ((b.length+1)=(b++[m]).length)<|Y (zG ((q9 (p+1)),((),((),(d,(e,(f,((a++[false]),(g,(o,(h,(i,(j,(k,(l,(b++[m])))))))))))))))))
  (oV j d k h g e<|oV l f b i c a<|oW d e f a g c<|oW h i j k l b<|Y (zF ((),((),(d,(e,(f,(a,(g,(c,(h,(i,(j,(k,(l,b)))))))))))))))
def UE f3 x6 s:=zJ (ZZ f3 x6) s
def Q0(q:Form)(n:Int):(Int×Unit×Unit×zp×zp×zp×zp×qg×qg×z7×z7×zr×zr×zr×zr)->T ((Int×Unit×Unit×zp×zp×zp×zp×qg×qg×z7×z7×zr×zr×zr×zr)⊕((Unit×Unit×zp×zp×zp×zp×qg×qg×z7×z7×zr×zr×zr×zr)))
 | (m,o,p,b,c,d,e,f,g,h,a,i,j,k,l) =>
 R (zA (m<n))
  (oA a 8<|oV i b j h f c<|oC k<|oC d<|oC l<|.zl (zu (a.length+1) 0 (a.length+1) (a++([(-1)]:List Int)).length)<|oC g<|oC e<|oW b c d e f g<|W h<|.zl ((a.length+1)=(a++([(-1)]:List Int)).length)<|W i<|W j<|W k<|W l<|Y (zG ((q9 (m+1)),((),((),(b,(c,(d,(e,(f,(g,(h,((a++([(-1)]:List Int)),(i,(j,(k,l))))))))))))))))
  (oV i b j h f c<|oV k d l a g e<|oW b c d e f g<|oW h a i j k l<|Y (zF ((),((),(b,(c,(d,(e,(f,(g,(h,(a,(i,(j,(k,l)))))))))))))))
def UF f4 x8 s:=zJ (Q0 f4 x8) s
def Ws(a:Form):T ((zr×Unit)×zo×Int×zr×zp×z7×qg×zp) :=
 .zl (zu 0 0 0 0)<|.zl (zu 0 0 0 0)<|.zl (zu 0 0 0 0)<|.zl (zu 0 0 0 0)<|.zl (zu 0 0 0 0)<|.zl (zu 0 0 0 0)<|.zl (zu 0 0 0 0)<|.zl (zu 0 0 0 0)<|.zl (zu 0 0 0 0)<|.zl (zu 0 0 0 0)<|.zl (zu 0 0 0 0)<|oZ<|.zl (0=0)<|.zl (0=0)<|.zl (0=0)<|.zl (0=0)<|.zl (0=0)<|.zl (0=0)<|.zl (0=0)<|.zl (0=0)<|.zl (0=0)<|.zl (0=0)<|.zl (0=0)<|I (UC a a.2.1 (a.2.1.length:Int) (0,((),((),([],([],([],([],([],([],([],([],([],([],([],[]))))))))))))))) λ(ac,ad,b,c,d,e,f,g,h,i,j,k,l,m) =>
 oV j b k h f c<|oV l d m i g e<|oW b c d e f g<|oW h i j k l m<|I (UD a a.1 (a.1.length:Int) (0,((),((),(b,(c,(d,(e,(f,(g,(h,(i,(j,(k,(l,m))))))))))))))) λ(ae,af,n,o,p,q,r,s,t,u,v,w,x,y) =>
 oV v n w t r o<|oV x p y u s q<|oW n o p q r s<|oW t u v w x y<|I (UE a (a.2.2.2.1.length:Int) (0,((),((),(n,(o,(p,(q,(r,(s,(t,(u,(v,(w,(x,y))))))))))))))) λ(ag,ah,z,A,hl,C,D,κ',G,H,zC,hb,K,L) =>
 oV zC z hb G D A<|oV K hl L H κ' C<|oW z A hl C D κ'<|oW G H zC hb K L<|I (UF a (a.2.2.2.2.1.length:Int) (0,((),((),(z,(A,(hl,(C,(D,(κ',(G,(H,(zC,(hb,(K,L))))))))))))))) λ(ai,aj,ak,al,M,N,am,κ,an,P,ao,ap,zD,S) =>
 oW zD M S P κ N<|I (ez a ((zH 0 (zI (0+zD.length) zD)),((zH 0 (zI (0+M.length) M)),((zH 0 (zI (0+S.length) S)),((zH 0 (zI (0+P.length) P)),((zH 0 (zI (0+κ.length) κ)),((zH 0 (zI (0+N.length) N)),()))))))) λ(z6,aa,ab,hx,hd,oE,h2,zB) =>
 oC hx<|oC hd<|oC oE<|oC h2<|oC zB<|W hx<|W hd<|W oE<|W h2<|W zB<|Y ((z6.1,()),(aa,(ab,(hx,(hd,(oE,(h2,zB)))))))
def yM(a:Switch)(b:ct):T Bool :=
 Y (xx a.1 b.2.1)
def mP(d:zp)(h:Form)(f:xb)(i:Int):(Int×zp)->T ((Int×zp)⊕zp)
 | (b,a)=>let e:=a++[false];
 R (zA (b<i))
  (oI b f<|I (wb h.1 (λg=>yM g (nth f b (zb xk)))) λc =>
 R (xx (nth f b (zb xk)).2.1 [])
  (oA a 1<|oM (a.length+1) (a++[true]).length<|Y (zG ((q9 (b+1)),(a++[true]))))
  (R (zA (0<=c))
  (R (zA (c<(d.length:Int)))
  (oI c d<|oA a 1<|oM (a.length+1) (a++([(nth d c (zb .bool))]:List Bool)).length<|Y (zG ((q9 (b+1)),(a++([(nth d c (zb .bool))]:List Bool)))))
  (oA a 1<|oM (a.length+1) e.length<|Y (zG ((q9 (b+1)),e))))
  (oA a 1<|oM (a.length+1) e.length<|Y (zG ((q9 (b+1)),e)))))
  (oC a<|W a<|Y (zF a))
def Zy on1 f1 x x1 s:=zJ (mP on1 f1 x x1) s
def kB(b:Form)(c:zp):T zp :=
 oZ<|I (Zy c b b.2.2.1 (b.2.2.1.length:Int) (0,[])) λa =>
 W a<|Y (zH 0 (zI (0+a.length) a))
def oi(l:List Bool)(at_:Int):Nat->Int×Bool
 | 0=>(at_,false)
 | k+1=>if l[k]?.getD false=true/\(k:Int)<at_ then((k:Int),true)else oi l at_ k
def rm(b:Form)(c:zp)(d:Int):T (Int×Bool) :=
 I (kB b c) λa=>.zl (a.length*8<=140737488351232) (Y (oi a d a.length))
def Qp(c:Int)(b:zp)(d:Int):Int->T (Int⊕(Unit⊕(Int×Bool)))
 | a =>
 R (zA (a<d))
  (oI a b<|R ((nth b a (zb .bool))&&(zA (c<a)))
  (Y (zF (zF (a,true))))
  (Y (zG (q9 (a+1)))))
  (Y (zF (zG ())))
def Ji at_1 x x1 s:=zJ (Qp at_1 x x1) s
def rq(e:Form)(f:zp)(b:Int):T (Int×Bool) :=
 I (kB e f) λa =>
 I (Ji b a (a.length:Int) 0)<|zK (λ_ =>
 Y (b,false))
  (λ(c,d) =>
 Y (c,d))
def Zx(c:Form)(d:zp)(a:Int):T Int :=
 I (kB c d) λb =>
 .zl (((zA (0<=a))=true)->(((zA (a<(b.length:Int)))=true)->(xe a b.length)))<|R ((zA (0<=a))&&((zA (a<(b.length:Int)))&&(nth b a (zb .bool))))
  (Y a)
  (I (rm c d a) λ(e,f) =>
 R f
  (Y e)
  (I (rq c d a) λ(g,h) =>
 R h
  (Y g)
  (Y 0)))
def cB(j:Form):T ((zn×Int×zk)⊕(zn×Int)) :=
 I (cx j) λ(h,k) =>
 R (h != 0)
  (Y (zF (k,h)))
  (I (mE j) λa =>
 I (Ws a) λ(l,b,i,d,c,e,f,g) =>
 R (i != 0)
  (.zl (((b.length+1)*16)<=140737488355328)<|.zl (xe 0 (b.length+1))<|.zl (j6 (b.length+1) (b.length+1) (0+(zE 0)) (b++([[]]:List zn)).length)<|Y (zF ((wB (b++([[]]:List zn)) (0+(zE 0)) (zb .str)),i)))
  (W d<|W c<|W e<|W f<|W g<|I (Zx a (zH 0 (zI (0+c.length) c)) 0) λm =>
 Y (zG ([],(0,((a.1,(a.2.1,(a.2.2.1,(a.2.2.2.1,(a.2.2.2.2.1,(a.2.2.2.2.2.1,())))))),(((zH 0 (zI (0+d.length) d)),((zH 0 (zI (0+c.length) c)),(l.1,((zH 0 (zI (0+e.length) e)),((zH 0 (zI (0+f.length) f)),((zH 0 (zI (0+g.length) g)),())))))),((([]:List zn),(([]:List zn),())),(m,(false,()))))))))))
def Jp(b:z7):Int->T (Int⊕Int)
 | a =>
 .zl (((zA (0<a))=true)->(xe (q9 (a-1)) b.length))<|R ((zA (0<a))&&((nth b (q9 (a-1)) (zb (.int .u32)))==0))
  (Y (zG (q9 (a-1))))
  (Y (zF a))
def E7 a1 s:=zJ (Jp a1) s
def uV(a:z7):T z7 :=
 I (E7 a (a.length:Int)) λb =>
 .zl (jv 0 b a.length)<|.zl (vZ 0 0 0 0 0 (je (e:=(.int .u32)) 0 b a).length 4)<|.zl ((0+(je (e:=(.int .u32)) 0 b a).length)=(0+(je (e:=(.int .u32)) 0 b a).length))<|Y (zH 0 (zI (0+(0+(je (e:=(.int .u32)) 0 b a).length)) (je (e:=(.int .u32)) 0 b a)))
def WN(a:Int):T z7 :=
 .zl (0<=(32:Int))<|I (uV ([(kT a),(kT (j8 .u64 a 32))]:List Int)) λb =>
 Y b
def Hh(c:z7):(Int×Int)->T ((Int×Int)⊕Int)
 | (b,a) =>
 R (zA (0<=a))
  (.zl (0<=(32:Int))<|oI a c<|Y (zG ((JJ .u64 (lZ .u64 b 32) (xo (nth c a (zb (.int .u32))))),(q9 (a-1)))))
  (Y (zF b))
def Nf t1 s:=zJ (Hh t1) s
def E5(c:z7):T (Int×Bool) :=
 I (uV c) λa =>
 R (zA (2<(a.length:Int)))
  (Y (0,false))
  (I (Nf a (0,(q9 ((a.length:Int)-1)))) λb =>
 Y (b,true))
def Vj(e:z7)(c:Int):(Int×Int×z7)->T ((Int×Int×z7)⊕((Int×z7)))
 | (d,b,a)=>let f:=zL a (0+(zE b)) (kT (xo (zQ (JJ .u64 (lZ .u64 d 32) (xo (nth e b (zb (.int .u32))))) c)));
 R (zA (0<=b))
  (.zl (0<=(32:Int))<|oI b e<|.zl (c≠0)<|oI b a<|.zl (j6 a.length a.length (0+(zE b)) a.length)<|.zl (c≠0)<|oM a.length f.length<|Y (zG ((zO (JJ .u64 (lZ .u64 d 32) (xo (nth e b (zb (.int .u32))))) c),((q9 (b-1)),f))))
  (oC a<|W a<|Y (zF (d,a)))
def Bn a1 by_1 s:=zJ (Vj a1 by_1) s
def Hi(a:z7)(e:Int):T (z7×Int) :=
 .zl (dS (a.length:Int) (a.length:Int) 4)<|oM (zE (a.length:Int)) (zM (zE (a.length:Int)) (0:Int)).length<|I (Bn a e (0,((q9 ((a.length:Int)-1)),(zM (zE (a.length:Int)) 0)))) λ(c,b) =>
 W b<|I (uV (zH 0 (zI (0+b.length) b))) λd =>
 Y (d,c)
def tO(a:z7)(b:Int):T Int :=
 R (zA (b<(a.length:Int)))
  (oI b a<|Y (xo (nth a b (zb (.int .u32)))))
  (Y 0)
def Vh(c:z7)(d:Int):(Int×z7)->T ((Int×z7)⊕z7)
 | (b,a) =>
 R (zA (b<(c.length:Int)))
  (I (tO c b) λf =>
 I (tO c (q9 (b+1))) λg=>let e:=a++([(kT (j8 .u64 (JJ .u64 f (lZ .u64 g 32)) d))]:List Int);
 .zl (0<=(32:Int))<|.zl (0<=d)<|oA a 4<|oM (a.length+1) e.length<|Y (zG ((q9 (b+1)),e)))
  (oC a<|W a<|Y (zF a))
def Bl t1 by_ s:=zJ (Vh t1 by_) s
def Vi(f:z7)(b:Int):(Int×Int×z7)->T ((Int×Int×z7)⊕z7)
 | (e,d,a) =>
 R (zA (d<(q9 ((f.length:Int)+1))))
  (I (tO f d) λc =>
 .zl (0<=b)<|oA a 4<|.zl (0<=(32:Int))<|oM (a.length+1) (a++([(kT (JJ .u64 (lZ .u64 c b) e))]:List Int)).length<|Y (zG ((j8 .u64 (lZ .u64 c b) 32),((q9 (d+1)),(a++([(kT (JJ .u64 (lZ .u64 c b) e))]:List Int))))))
  (oC a<|W a<|Y (zF a))
def Bm t2 by_1 s:=zJ (Vi t2 by_1) s
def Hg(j:z7)(k:Int):T z7 :=
 let b:=V9 (iA k (-4096)) 4096; let g:=q9 (zQ (q9 (0-b)) (32:Int)); let c:=q9 (zQ b (32:Int));  I (uV j) λa =>
 R (zA (b<0))
  (.zl (32≠(0:Int))<|R (zA ((a.length:Int)<=g))
  (Y [])
  (.zl (jv g (a.length:Int) a.length)<|.zl (32≠(0:Int))<|oZ<|I (Bl (je (e:=(.int .u32)) g (a.length:Int) a) (xo (zO (q9 (0-b)) (32:Int))) (0,[])) λd =>
 W d<|I (uV (zH 0 (zI (0+d.length) d))) λh =>
 Y h))
  (.zl (32≠(0:Int))<|.zl (dS c c 4)<|.zl (32≠(0:Int))<|oM (zE c) (zM (zE c) (0:Int)).length<|I (Bm a (xo (zO b (32:Int))) (0,(0,(zM (zE c) 0)))) λf =>
 W f<|I (uV (zH 0 (zI (0+f.length) f))) λi =>
 Y i)
def KY(f:z7)(g:z7):(Int×Int×z7)->T ((Int×Int×z7)⊕z7)
 | (e,b,a) =>
 R (zA (b<(q9 ((iA (f.length:Int) (g.length:Int))+1))))
  (I (tO f b) λc =>
 I (tO g b) λd =>
 oA a 4<|.zl (0<=(32:Int))<|oM (a.length+1) (a++([(kT (xo ((xo (e+c))+d)))]:List Int)).length<|Y (zG ((j8 .u64 (xo ((xo (e+c))+d)) 32),((q9 (b+1)),(a++([(kT (xo ((xo (e+c))+d)))]:List Int))))))
  (oC a<|W a<|Y (zF a))
def IG a1 b1 s:=zJ (KY a1 b1) s
def IF(c:z7)(d:z7):T z7 :=
 oZ<|I (IG c d (0,(0,[]))) λa =>
 W a<|I (uV (zH 0 (zI (0+a.length) a))) λb =>
 Y b
def KZ(b:z7)(c:z7):Int->T (Int⊕(Unit⊕Int))
 | a =>
 R (zA (0<=a))
  (oI a b<|oI a c<|R (zA ((nth b a (zb (.int .u32)))<(nth c a (zb (.int .u32)))))
  (Y (zF (zF (-1))))
  (oI a b<|oI a c<|R (zA ((nth c a (zb (.int .u32)))<(nth b a (zb (.int .u32)))))
  (Y (zF (zF 1)))
  (Y (zG (q9 (a-1))))))
  (Y (zF (zG ())))
def IH x1 y1 s:=zJ (KZ x1 y1) s
def He(d:z7)(e:z7):T Int :=
 I (uV d) λa =>
 I (uV e) λb =>
 R ((a.length:Int) != (b.length:Int))
  (R (zA ((a.length:Int)<(b.length:Int)))
  (Y (-1))
  (Y 1))
  (I (IH a b (q9 ((a.length:Int)-1)))<|zK (λ_ =>
 Y 0)
  (λc =>
 Y c))
def Y1(f:z7)(h:z7):(Int×Int×z7)->T ((Int×Int×z7)⊕z7)
 | (e,c,a) =>
 R (zA (c<(f.length:Int)))
  (I (tO f c) λb =>
 I (tO h c) λd=>let g:=a++([(kT (xo ((bif (zA (b<(xo (d+e))))then(xo (b+4294967296))else b)-(xo (d+e)))))]:List Int);
 oA a 4<|oM (a.length+1) g.length<|Y (zG ((bif (zA (b<(xo (d+e))))then 1 else 0),((q9 (c+1)),g))))
  (oC a<|W a<|Y (zF a))
def IL a1 b1 s:=zJ (Y1 a1 b1) s
def IK(b:z7)(c:z7):T (z7×Bool) :=
 I (He b c) λd =>
 R (zA (d<0))
  (Y ([],false))
  (oZ<|I (IL b c (0,(0,[]))) λa =>
 W a<|I (uV (zH 0 (zI (0+a.length) a))) λe =>
 Y (e,true))
def XZ(i:z7)(j:z7):(z7×Int×z7)->T ((z7×Int×z7)⊕((z7×z7)))
 | (h,c,b)=>let d:=q9 (zQ c (32:Int)); let e:=0+(zE d);
 R (zA (0<=c))
  (I (Hg h 1) λg =>
 I (.zl (32≠(0:Int))<|oI d i<|.zl (32≠(0:Int))<|.zl (0<=(xo (zO c (32:Int))))<|R ((YY .u32 (j8 .u32 (nth i d (zb (.int .u32))) (xo (zO c (32:Int)))) 1)==1)
  (I (IF g ([1]:List Int)) λl =>
 oC b<|W b<|Y (l,b))
  (oC b<|W b<|Y (g,b)):T ((z7×z7))) λ(f,a)=>let k:=zL a e (JJ .u32 (wB a e (zb (.int .u32))) (lZ .u32 1 (xo (zO c (32:Int)))));
 I (He f j) λm =>
 R (zA (0<=m))
  (I (IK f j) λ(n,o) =>
 .zl (32≠(0:Int))<|.zl (32≠(0:Int))<|oI d a<|.zl (j6 a.length a.length e a.length)<|.zl (32≠(0:Int))<|.zl (0<=(xo (zO c (32:Int))))<|oI d a<|.zl (j6 a.length a.length e a.length)<|oM a.length k.length<|Y (zG (n,((q9 (c-1)),k))))
  (oC a<|W a<|Y (zG (f,((q9 (c-1)),a)))))
  (oC b<|W b<|Y (zF (h,b)))
def Hf a1 b1 s:=zJ (XZ a1 b1) s
def tN(a:z7)(d:z7):T (z7×z7×Bool) :=
 I (uV d) λg =>
 R ((g.length:Int)==0)
  (Y ([],([],false)))
  (I (E5 a) λ(e,h) =>
 I (E5 d) λ(b,f) =>
 R (h&&f)
  (.zl (b≠0)<|I (WN (xo (zQ e b))) λi =>
 .zl (b≠0)<|I (WN (zO e b)) λj =>
 Y (i,(j,true)))
  (R (f&&(zA (b<4294967296)))
  (I (Hi a b) λ(k,l) =>
 I (WN l) λm =>
 Y (k,(m,true)))
  (.zl (dS (a.length:Int) (a.length:Int) 4)<|oM (zE (a.length:Int)) (zM (zE (a.length:Int)) (0:Int)).length<|I (Hf a d ([],((q9 ((q9 (32*(a.length:Int)))-1)),(zM (zE (a.length:Int)) 0)))) λ(n,c) =>
 W c<|I (uV (zH 0 (zI (0+c.length) c))) λo =>
 I (uV n) λp =>
 Y (o,(p,true)))))
def Y0  : (z7×z7)->T ((z7×z7)⊕z7)
 | (b,a) =>
 R (zA (0<(a.length:Int)))
  (I (tN b a) λ(d,c,e) =>
 Y (zG (a,c)))
  (Y (zF b))
def IJ(s:(z7×z7)):T z7:=zJ (Y0 ) s
def II(d:z7)(e:z7):T z7 :=
 I (uV d) λa =>
 I (uV e) λb =>
 I (IJ  (a,b)) λc =>
 Y c
def ZB(c:Rat):T Rat :=
 I (uV c.2.1) λa =>
 I (uV c.2.2.1) λb =>
 R (((b.length:Int)==0)||((a.length:Int)==0))
  (Y (false,(([]:List Int),(([1]:List Int),()))))
  (I (II a b) λd =>
 I (tN a d) λ(e,g,h) =>
 I (tN b d) λ(f,i,j) =>
 Y (c.1,(e,(f,()))))
def YL(b:Bool)(c:z7)(d:z7):T Rat :=
 I (ZB (b,(c,(d,())))) λa =>
 Y a
def fg(a:Int):T Rat :=
 I (WN (bif (zA (a<0))then(xo (0-(xo a)))else(xo a))) λb =>
 I (YL (zA (a<0)) b ([1]:List Int)) λc =>
 Y c
def ev(a:Field)(b:zn):T Bool :=
 Y (xx a.1 b)
def cN(b:qp)(d:Field->T Bool)(e:Int):Int->T (Int⊕(Unit⊕Int))
 | a =>
 R (zA (a<e))
  (oI a b<|I (d (nth b a (zb qq))) λc =>
 R c
  (Y (zF (zF a)))
  (Y (zG (q9 (a+1)))))
  (Y (zF (zG ())))
def oU s1 f x s:=zJ (cN s1 f x) s
def gE(a:qp)(c:Field->T Bool):T Int :=
 I (oU a c (a.length:Int) 0)<|zK (λ_ =>
 Y (-1))
  (λb =>
 Y b)
def Zk(c:Form)(d:zn):T Int :=
 I (gE c.2.2.2.1 (λa=>ev a d)) λb =>
 Y b
def cz(a:Rat):T Bool :=
 I (Z3 a) λb =>
 R b
  (I (cT a) λc =>
 Y (!c))
  (Y false)
def fQ(b:Rat):T Bool :=
 I (cz b) λa =>
 Y (!a)
def JU(a:ve):T Bool :=
 I (cz a.2.2.1) λb =>
 R b
  (R a.1
  (Y true)
  (R (!a.2.1)
  (I (ly a.2.2.1) λc =>
 Y c)
  (Y false)))
  (Y false)
def fR(b:ve):T Bool :=
 I (JU b) λa =>
 Y (!a)
def bX(b:qg)(d:ve->T Bool)(e:Int):Int->T (Int⊕(Unit⊕Int))
 | a =>
 R (zA (a<e))
  (oI a b<|I (d (nth b a (zb q8))) λc =>
 R c
  (Y (zF (zF a)))
  (Y (zG (q9 (a+1)))))
  (Y (zF (zG ())))
def mT s1 f x s:=zJ (bX s1 f x) s
def yz(a:qg)(c:ve->T Bool):T Int :=
 I (mT a c (a.length:Int) 0)<|zK (λ_ =>
 Y (-1))
  (λb =>
 Y b)
def uD(b:qg)(c:ve->T Bool):T Bool :=
 I (yz b c) λa =>
 Y (zA (0<=a))
def Wl(h:zr)(b:wC)(i:Int):(Int×Rat×Rat)->T ((Int×Rat×Rat)⊕((Rat×Rat)))
 | (a,c,d) =>
 R (zA (a<i))
  (oI a b<|I (ml h (nth b a (zb qk)).1) λe =>
 I (pP ((nth b a (zb qk)).2.1.1,((nth b a (zb qk)).2.1.2.1,((nth b a (zb qk)).2.1.2.2.1,()))) e) λf =>
 I (pO d f) λg =>
 Y (zG ((q9 (a+1)),(c,g))))
  (Y (zF (c,d)))
def JL val1 x x1 s:=zJ (Wl val1 x x1) s
def CZ(a:vM)(d:zr):T Rat :=
 I (vH a.2.2.1) λb =>
 I (JL d a.2.1 (a.2.1.length:Int) (0,((false,(([]:List Int),(([]:List Int),()))),b))) λ(e,c) =>
 Y c
def tC(c:vM)(d:zr):T Bool :=
 I (CZ c d) λa =>
 I (ly a) λb =>
 Y b
def yp(f:wC)(l:Int):(Int×Int×Int×(zx×Unit)×z7×z7)->T ((Int×Int×Int×(zx×Unit)×z7×z7)⊕((Int×(zx×Unit)×z7×z7)))
 | (i,j,a,k,d,e) =>
 R (zA (a<l))
  (oI a f<|oC d<|oC e<|W d<|W e<|I (jR (nth f a (zb qk)).1 (k.1,()) d e) λ(g,h,b,c) =>
 .zl (wfI (nth f a (zb qk)).1)<|R ((!false)&&(zA (j<g)))
  (oC b<|oC c<|W b<|W c<|Y (zG ((nth f a (zb qk)).1,(g,((q9 (a+1)),((h.1,()),(b,c)))))))
  (oC b<|oC c<|W b<|W c<|Y (zG (i,(j,((q9 (a+1)),((h.1,()),(b,c))))))))
  (oC d<|oC e<|W d<|W e<|Y (zF (i,((k.1,()),(d,e)))))
def dq x x1 s:=zJ (yp x x1) s
def bj(b:Int)(a:(zx×Unit))(e:z7)(f:z7):T (Int×(zx×Unit)×z7×z7) :=
 oI b a.1<|oI b a.1<|oC e<|oC f<|W e<|W f<|I (dq (nth a.1 b (zb zq)).2.1 (zN (zP (nth a.1 b (zb zq)).2.1):Int) ((-1),((nth a.1 b (zb zq)).1,(0,((a.1,()),(e,f)))))) λ(g,h,c,d) =>
 oC c<|oC d<|W c<|W d<|Y (g,((h.1,()),(c,d)))
def nf(d:zx)(i:z7)(j:Int)(b:Int):T Bool :=
 I (bJ d i j)<|zK (λ(e,f,a,c) =>
 R e
  (R (zA (0<=b))
  (R (zA (b<(d.length:Int)))
  (oI b a<|.zl (j6 a.length a.length (0+(zE b)) a.length)<|R ((wB a (0+(zE b)) (zb (.int .i64)))==(-1))
  (oC a<|oC c<|W a<|W c<|I (bj b (f.1,()) a c) λ(g,k,l,m) =>
 Y (g==(-1)))
  (Y false))
  (Y false))
  (Y false))
  (Y false))
  (λh =>
 R h
  (R (zA (0<=b))
  (R (zA (b<(d.length:Int)))
  (.fail)
  (Y false))
  (Y false))
  (Y false))
def bD(g:Int)(m:zr)(j:(qf×qi×xb×qp×qz×qt×Unit))(a:zx)(b:z7)(e:z7):T (Bool×(qf×qi×xb×qp×qz×qt×Unit)×zx×z7×z7) :=
 let k:=(j.1,(j.2.1,(j.2.2.1,(j.2.2.2.1,(j.2.2.2.2.1,(j.2.2.2.2.2.1,())))))); let h:=wB a (0+(zE g)) (zb zq);  oI g a<|.zl (j6 a.length a.length (0+(zE g)) a.length)<|oI g b<|.zl (j6 b.length b.length (0+(zE g)) b.length)<|R ((wB b (0+(zE g)) (zb (.int .i64))) != (-1))
  (I (tC h m) λo =>
 oC a<|oC b<|oC e<|W a<|W b<|W e<|Y (o,(k,(a,(b,e)))))
  (I (R ((h.2.1.length:Int)==0)
  (I (ly (h.2.2.1.1,(h.2.2.1.2.1,(h.2.2.1.2.2.1,())))) λp =>
 oC a<|oC b<|oC e<|W a<|W b<|W e<|Y (p,(k,(a,(b,(e,h))))))
  (oC a<|oC b<|oC e<|W a<|W b<|W e<|Y (false,(k,(a,(b,(e,h)))))):T ((Bool×(qf×qi×xb×qp×qz×qt×Unit)×zx×z7×z7×vM))) λ(q,i,c,d,f,r)=>let n:=nf (zH 0 (zI (0+c.length) c)) (zH 0 (zI (0+d.length) d)) (m.length:Int) g; let l:=((i.1,(i.2.1,(i.2.2.1,(i.2.2.2.1,(i.2.2.2.2.1,(i.2.2.2.2.2.1,())))))),(c,(d,f)));
 R (r.1 != 0)
  (W c<|W d<|I n λs =>
 oC c<|oC d<|oC f<|W c<|W d<|W f<|Y (s,l))
  (R q
  (W c<|W d<|I n λt =>
 oC c<|oC d<|oC f<|W c<|W d<|W f<|Y (t,l))
  (oC c<|oC d<|oC f<|W c<|W d<|W f<|Y (false,l))))
def JS(p:wH)(k:z7)(o:Int):(Int×(qf×qi×xb×qp×qz×qt×Unit)×zx×z7×z7)->T ((Int×(qf×qi×xb×qp×qz×qt×Unit)×zx×z7×z7)⊕(((qf×qi×xb×qp×qz×qt×Unit)×zx×z7×z7)⊕(Bool×(qf×qi×xb×qp×qz×qt×Unit)×zx×z7×z7)))
 | (i,e,b,c,a)=>let j:=((e.1,(e.2.1,(e.2.2.1,(e.2.2.2.1,(e.2.2.2.2.1,(e.2.2.2.2.2.1,())))))),(b,(c,a)));
 R (zA (i<o))
  (oI i k<|I (R ((nth k i (zb (.int .i64))) != (-1))
  (W a<|I (jB (zH 0 (zI (0+a.length) a)) i) λm =>
 oC b<|oC c<|oC a<|W b<|W c<|W a<|Y ((!m),j))
  (oC b<|oC c<|oC a<|W b<|W c<|W a<|Y (false,j)):T ((Bool×(qf×qi×xb×qp×qz×qt×Unit)×zx×z7×z7))) λ(n,d,f,g,h)=>let l:=((d.1,(d.2.1,(d.2.2.1,(d.2.2.2.1,(d.2.2.2.2.1,(d.2.2.2.2.2.1,())))))),(f,(g,h)));
 R n
  (oC f<|oC g<|oC h<|W f<|W g<|W h<|Y (zF (zF (false,l))))
  (oC f<|oC g<|oC h<|W f<|W g<|W h<|Y (zG ((q9 (i+1)),l))))
  (oC b<|oC c<|oC a<|W b<|W c<|W a<|Y (zF (zG j)))
def BN d1 x x1 s:=zJ (JS d1 x x1) s
def JT(m:wH)(n:Int):(Int×(qf×qi×xb×qp×qz×qt×Unit)×zx×z7×z7)->T ((Int×(qf×qi×xb×qp×qz×qt×Unit)×zx×z7×z7)⊕(((qf×qi×xb×qp×qz×qt×Unit)×zx×z7×z7)⊕(Bool×(qf×qi×xb×qp×qz×qt×Unit)×zx×z7×z7)))
 | (i,b,c,d,e)=>let j:=(b.1,(b.2.1,(b.2.2.1,(b.2.2.2.1,(b.2.2.2.2.1,(b.2.2.2.2.2.1,()))))));
 R (zA (i<n))
  (oC c<|oC d<|oC e<|W c<|W d<|W e<|I (bD i m.2.2.1 j c d e) λ(l,a,f,g,h)=>let k:=((a.1,(a.2.1,(a.2.2.1,(a.2.2.2.1,(a.2.2.2.2.1,(a.2.2.2.2.2.1,())))))),(f,(g,h)));
 R (!l)
  (oC f<|oC g<|oC h<|W f<|W g<|W h<|Y (zF (zF (false,k))))
  (oC f<|oC g<|oC h<|W f<|W g<|W h<|Y (zG ((q9 (i+1)),k))))
  (oC c<|oC d<|oC e<|W c<|W d<|W e<|Y (zF (zG (j,(c,(d,e))))))
def BO d2 x5 s:=zJ (JT d2 x5) s
def Xr(t:Form)(a:wH):T Bool :=
 I (dE t a)<|zK (λ(k,d,g,h,i) =>
 R (k != 0)
  (Y false)
  (I (vz a.2.2.1 (λb=>fQ b)) λl =>
 R l
  (Y false)
  (I (uD a.2.2.2.2.1 (λb=>fR b)) λm =>
 R m
  (Y false)
  (oC g<|oC h<|oC i<|W g<|W h<|W i<|I (BN a a.2.2.2.1 (a.2.2.2.1.length:Int) (0,((d.1,(d.2.1,(d.2.2.1,(d.2.2.2.1,(d.2.2.2.2.1,(d.2.2.2.2.2.1,())))))),(g,(h,i)))))<|zK (λ(e,c,f,j) =>
 W c<|W f<|I (Zg (zH 0 (zI (0+c.length) c)) (zH 0 (zI (0+f.length) f)) (a.2.2.1.length:Int)) λn =>
 R (!n)
  (Y false)
  (oC c<|oC f<|oC j<|W c<|W f<|W j<|I (BO a (c.length:Int) (0,((e.1,(e.2.1,(e.2.2.1,(e.2.2.2.1,(e.2.2.2.2.1,(e.2.2.2.2.2.1,())))))),(c,(f,j)))))<|zK (λ(u,v,w,x) =>
 Y true)
  (λ(o,y,z,A,hl) =>
 Y o)))
  (λ(p,C,D,κ',G) =>
 Y p)))))
  (λ(H,q) =>
 R (q != 0)
  (Y false)
  (I (vz a.2.2.1 (λb=>fQ b)) λr =>
 R r
  (Y false)
  (I (uD a.2.2.2.2.1 (λb=>fR b)) λs =>
 R s
  (Y false)
  (.fail))))
def UB(s:Form)(h:wH)(t:zn)(x:Rat):T (wH×zo×Int) :=
 I (Zk s t) λf =>
 I (Xr s h) λy =>
 R (!y)
  (Y ((([]:List Rat),(([]:List Bool),(([]:List Rat),(([]:List Int),(([]:List ve),(([]:List Bool),())))))),([],1)))
  (R (zA (f<0))
  (Y ((([]:List Rat),(([]:List Bool),(([]:List Rat),(([]:List Int),(([]:List ve),(([]:List Bool),())))))),([],5)))
  (I (cz x) λz =>
 R (!z)
  (Y ((([]:List Rat),(([]:List Bool),(([]:List Rat),(([]:List Int),(([]:List ve),(([]:List Bool),())))))),([t],8)))
  (I (dE s h)<|zK (λ(g,d,i,j,k) =>
 R (g != 0)
  (Y ((([]:List Rat),(([]:List Bool),(([]:List Rat),(([]:List Int),(([]:List ve),(([]:List Bool),())))))),([],g)))
  (oC i<|oC j<|oC k<|W i<|W j<|W k<|I (kV f x (-1) (d.1,(d.2.1,(d.2.2.1,(d.2.2.2.1,(d.2.2.2.2.1,(d.2.2.2.2.2.1,())))))) i j k) λ(e,l,m,n) =>
 W l<|W m<|W n<|I (kc h.2.2.1 ((e.1,(e.2.1,(e.2.2.1,(e.2.2.2.1,(e.2.2.2.2.1,(e.2.2.2.2.2.1,())))))),((zH 0 (zI (0+l.length) l)),((zH 0 (zI (0+m.length) m)),((zH 0 (zI (0+n.length) n)),()))))) λ(A,hl,u,a)=>let b:=q9 ((a.2.1.length:Int)-1);
 R (u != 0)
  (Y ((([]:List Rat),(([]:List Bool),(([]:List Rat),(([]:List Int),(([]:List ve),(([]:List Bool),())))))),(hl,u)))
  (oI b a.2.2.1<|R ((nth a.2.2.1 b (zb (.int .i64)))==(-1:Int))
  (Y ((([]:List Rat),(([]:List Bool),(([]:List Rat),(([]:List Int),(([]:List ve),(([]:List Bool),())))))),([t],11)))
  (.zl (jv 0 b a.2.1.length)<|.zl (jv 0 b a.2.2.1.length)<|.zl (jv 0 b a.2.2.2.1.length)<|I (kc A ((a.1.1,(a.1.2.1,(a.1.2.2.1,(a.1.2.2.2.1,(a.1.2.2.2.2.1,(a.1.2.2.2.2.2.1,())))))),((je (e:=zq) 0 b a.2.1),((je (e:=(.int .i64)) 0 b a.2.2.1),((je (e:=(.int .i64)) 0 b a.2.2.2.1),()))))) λ(C,D,v,κ') =>
 R (v != 0)
  (Y ((([]:List Rat),(([]:List Bool),(([]:List Rat),(([]:List Int),(([]:List ve),(([]:List Bool),())))))),(D,v)))
  (I (gP h C κ') λ(G,zC,o,p,q,r,c) =>
 oI f c<|.zl (j6 c.length c.length (0+(zE f)) c.length)<|W o<|W p<|W q<|W r<|W c<|Y (((zH 0 (zI (0+o.length) o)),((zH 0 (zI (0+p.length) p)),(G.1,((zH 0 (zI (0+q.length) q)),((zH 0 (zI (0+r.length) r)),((zH 0 (zI (0+c.length) (zL c (0+(zE f)) true))),())))))),([],0)))))))
  (λ(H,w) =>
 R (w != 0)
  (Y ((([]:List Rat),(([]:List Bool),(([]:List Rat),(([]:List Int),(([]:List ve),(([]:List Bool),())))))),(H,w)))
  (.fail)))))
def Zl(e:Rat->T zn)(d:zr)(f:Int):(zn×Int)->T ((zn×Int)⊕zn)
 | (c,a) =>
 R (zA (a<f))
  (oI a d<|I (e (nth d a (zb zm))) λb =>
 oK [32] b<|oK c (cat [32] b)<|Y (zG ((cat c (cat [32] b)),(q9 (a+1)))))
  (Y (zF c))
def JV text x x1 s:=zJ (Zl text x x1) s
def nn(c:zn)(b:zr)(d:Rat->T zn):T zn :=
 I (JV d b (b.length:Int) (c,0)) λa =>
 oK a [10]<|Y (cat a [10])
def cP(a:Bool):T zn :=
 R a
  (Y [49])
  (Y [48])
def tz(e:Bool->T zn)(d:zp)(f:Int):(zn×Int)->T ((zn×Int)⊕zn)
 | (c,a) =>
 R (zA (a<f))
  (oI a d<|I (e (nth d a (zb .bool))) λb =>
 oK [32] b<|oK c (cat [32] b)<|Y (zG ((cat c (cat [32] b)),(q9 (a+1)))))
  (Y (zF c))
def UG text x x1 s:=zJ (tz text x x1) s
def iM(c:zn)(b:zp)(d:Bool->T zn):T zn :=
 I (UG d b (b.length:Int) (c,0)) λa =>
 oK a [10]<|Y (cat a [10])
def mC(a:Int):T zn :=
 R (zA (a<0))
  (Y [45])
  (I (strconv_Itoa a) λb =>
 Y b)
def Zm(e:Int->T zn)(d:z7)(f:Int):(zn×Int)->T ((zn×Int)⊕zn)
 | (c,a) =>
 R (zA (a<f))
  (oI a d<|I (e (nth d a (zb (.int .i64)))) λb =>
 oK [32] b<|oK c (cat [32] b)<|Y (zG ((cat c (cat [32] b)),(q9 (a+1)))))
  (Y (zF c))
def JW text x x1 s:=zJ (Zm text x x1) s
def Z1(c:zn)(b:z7)(d:Int->T zn):T zn :=
 I (JW d b (b.length:Int) (c,0)) λa =>
 oK a [10]<|Y (cat a [10])
def mD(a:ve):T zn :=
 R (!a.1)
  (Y [45])
  (R a.2.1
  (I (gJ a.2.2.1) λb =>
 oK b [33]<|Y (cat b [33]))
  (I (gJ a.2.2.1) λc =>
 Y c))
def nG(e:ve->T zn)(d:qg)(f:Int):(zn×Int)->T ((zn×Int)⊕zn)
 | (c,a) =>
 R (zA (a<f))
  (oI a d<|I (e (nth d a (zb q8))) λb =>
 oK [32] b<|oK c (cat [32] b)<|Y (zG ((cat c (cat [32] b)),(q9 (a+1)))))
  (Y (zF c))
def Xw text x x1 s:=zJ (nG text x x1) s
def iN(c:zn)(b:qg)(d:ve->T zn):T zn :=
 I (Xw d b (b.length:Int) (c,0)) λa =>
 oK a [10]<|Y (cat a [10])
def cr(b:wH):T zn :=
 I (nn [112,97,114,97,109,115] b.1 (λa=>gJ a)) λc =>
 I (iM [111,110] b.2.1 (λa=>cP a)) λd =>
 oK c d<|I (nn [118,97,108,115] b.2.2.1 (λa=>gJ a)) λg =>
 oK (cat c d) g<|I (Z1 [111,117,116,115] b.2.2.2.1 (λa=>mC a)) λi=>let f:=cat (cat (cat c d) g) i;
 oK (cat (cat c d) g) i<|I (iN [112,105,110,115] b.2.2.2.2.1 (λa=>mD a)) λe =>
 oK f e<|I (iM [102,105,108,108,101,100] b.2.2.2.2.2.1 (λa=>cP a)) λh =>
 oK (cat f e) h<|oK (cat (cat f e) h) [101,110,100,10]<|Y (cat (cat (cat f e) h) [101,110,100,10])
def wT(a:zo):T zo :=
 .zl (a=[]->∀ r,T.leads (.zl (vZ 0 0 0 0 0 a.length 16)<|.zl (zu (0+a.length) 0 (0+a.length) a.length)<|.zl ((0+a.length)=a.length)<|Y a:T _) r->T.leads (.zl (zu 0 0 0 0)<|.zl (0=0)<|Y []:T _) r)<|.zl (vZ 0 0 0 0 0 a.length 16)<|oM (0+a.length) a.length<|Y a
def Wv(d:fW)(e:zn):T fW :=
 I (wT d.1) λc=>let a:=c.length+1; let b:=iA 0 (q9 ((zN a:Int)-32));
 oA c 16<|.zl (jv b (zN a:Int) a)<|.zl (a=a)<|Y ((zH (0+(zE b)) (zI ((0+(zE b))+((zE (zN a:Int))-(zE b))) (c++[e]))),(([]:List zn),()))
def vy(b:wH)(h:zo)(d:Int)(a:zk):T (Answer×zk) :=
 let e:=(a.1.1,(a.1.2.1,(a.1.2.2.1,(a.1.2.2.2.1,(a.1.2.2.2.2.1,(a.1.2.2.2.2.2.1,()))))));  R (d != 0)
  (Y ((d,(h,([],()))),a))
  (I (cr (a.2.1.1,(a.2.1.2.1,(a.2.1.2.2.1,(a.2.1.2.2.2.1,(a.2.1.2.2.2.2.1,(a.2.1.2.2.2.2.2.1,()))))))) λf =>
 I (Wv (a.2.2.1.1,(a.2.2.1.2.1,())) f) λc =>
 I (Zx e b.2.1 a.2.2.2.1) λg =>
 Y (((0:Int),(([]:List zn),([],()))),(e,((b.1,(b.2.1,(b.2.2.1,(b.2.2.2.1,(b.2.2.2.2.1,(b.2.2.2.2.2.1,())))))),((c.1,(c.2.1,())),(g,(a.2.2.2.2.1,())))))))
def Q1(w:Form)(c:wH)(C:zn)(i:Bool):T (wH×zo×Int) :=
 I (Zk w C) λa =>
 I (Xr w c) λy =>
 R (!y)
  (Y ((([]:List Rat),(([]:List Bool),(([]:List Rat),(([]:List Int),(([]:List ve),(([]:List Bool),())))))),([],1)))
  (R (zA (a<0))
  (Y ((([]:List Rat),(([]:List Bool),(([]:List Rat),(([]:List Int),(([]:List ve),(([]:List Bool),())))))),([],5)))
  (.zl ((i=true)->(xe a c.2.2.2.2.1.length))<|R (i&&(nth c.2.2.2.2.1 a (zb q8)).1)
  (Y ((([]:List Rat),(([]:List Bool),(([]:List Rat),(([]:List Int),(([]:List ve),(([]:List Bool),())))))),([],1)))
  (.zl (((!i)=true)->(xe a c.2.2.2.2.1.length))<|R ((!i)&&(!(nth c.2.2.2.2.1 a (zb q8)).1))
  (Y ((([]:List Rat),(([]:List Bool),(([]:List Rat),(([]:List Int),(([]:List ve),(([]:List Bool),())))))),([],12)))
  (I (mz c) λ(D,d,e,f,g,b,h) =>
 I (gw 0) λk=>let j:=zL b (0+(zE a)) (false,(false,((k.1,(k.2.1,(k.2.2.1,()))),()))); let x:=zL j (0+(zE a)) (true,(false,(((nth c.2.2.1 a (zb zm)).1,((nth c.2.2.1 a (zb zm)).2.1,((nth c.2.2.1 a (zb zm)).2.2.1,()))),())));
 oI a b<|.zl (j6 b.length b.length (0+(zE a)) b.length)<|I (R i
  (oI a c.2.2.1<|oI a b<|.zl (j6 b.length b.length (0+(zE a)) j.length)<|W d<|W e<|W f<|W g<|.zl (b.length=x.length)<|W h<|oC d<|oC e<|oC f<|oC g<|.zl (zu b.length 0 b.length x.length)<|oC h<|Y ((([]:List Rat),(([]:List Bool),(([]:List Rat),(([]:List Int),(([]:List ve),(([]:List Bool),())))))),(d,(e,(f,(g,(x,(h,()))))))))
  (W d<|W e<|W f<|W g<|.zl (b.length=j.length)<|W h<|oC d<|oC e<|oC f<|oC g<|.zl (zu b.length 0 b.length j.length)<|oC h<|Y ((([]:List Rat),(([]:List Bool),(([]:List Rat),(([]:List Int),(([]:List ve),(([]:List Bool),())))))),(d,(e,(f,(g,(j,(h,())))))))):T ((wH×zr×zp×zr×z7×qg×zp×Unit))) λ(κ',l,m,n,o,p,q,G) =>
 oW l m n o p q<|I (ez w ((zH 0 (zI (0+l.length) l)),((zH 0 (zI (0+m.length) m)),((zH 0 (zI (0+n.length) n)),((zH 0 (zI (0+o.length) o)),((zH 0 (zI (0+p.length) p)),((zH 0 (zI (0+q.length) q)),()))))))) λ(z,A,hl,r,s,t,u,v) =>
 W r<|W s<|W t<|W u<|W v<|Y (((zH 0 (zI (0+r.length) r)),((zH 0 (zI (0+s.length) s)),(z.1,((zH 0 (zI (0+t.length) t)),((zH 0 (zI (0+u.length) u)),((zH 0 (zI (0+v.length) v)),())))))),(A,hl))))))
def gK(a:Param)(b:zn):T Bool :=
 Y (xx a.1 b)
def mA(k:Int):(Int×z7×(zr×zp×zr×qg×zp×Unit)×zx×z7×Unit×(qf×qi×xb×qp×qz×qt×Unit)×z7)->T ((Int×z7×(zr×zp×zr×qg×zp×Unit)×zx×z7×Unit×(qf×qi×xb×qp×qz×qt×Unit)×z7)⊕((z7×(zr×zp×zr×qg×zp×Unit)×zx×z7×Unit×(qf×qi×xb×qp×qz×qt×Unit)×z7)))
 | (g,b,c,e,a,l,f,d)=>let j:=(f.1,(f.2.1,(f.2.2.1,(f.2.2.2.1,(f.2.2.2.2.1,(f.2.2.2.2.2.1,())))))); let h:=wB a (0+(zE g)) (zb (.int .i64)); let i:=d++([(wB b (0+(zE h)) (zb (.int .i64)))]:List Int);
 R (zA (g<k))
  (oI g a<|.zl (j6 a.length a.length (0+(zE g)) a.length)<|oI h b<|.zl (j6 b.length b.length (0+(zE h)) b.length)<|oA d 8<|oC a<|W b<|oC b<|W e<|W a<|oC e<|.zl (zu (d.length+1) 0 (d.length+1) i.length)<|oC a<|.zl ((d.length+1)=i.length)<|Y (zG ((q9 (g+1)),(b,((c.1,(c.2.1,(c.2.2.1,(c.2.2.2.1,(c.2.2.2.2.1,()))))),(e,(a,((),(j,i)))))))))
  (W b<|oC b<|W e<|W a<|oC e<|oC d<|oC a<|W d<|Y (zF (b,((c.1,(c.2.1,(c.2.2.1,(c.2.2.2.1,(c.2.2.2.2.1,()))))),(e,(a,((),(j,d))))))))
def Zi x s:=zJ (mA x) s
end Go.AM.Lf
