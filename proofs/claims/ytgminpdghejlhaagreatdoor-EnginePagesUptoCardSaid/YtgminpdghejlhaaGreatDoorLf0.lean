/-
  The program's functions as trees in plain Lean, part 0: printed by a program of ours.
-/
import Derived.Test.YtgminpdghejlhaaGreatDoorAmA
set_option linter.unusedVariables false
open Decidable renaming decide -> zA
open Go.AM.T renaming ret -> Y, bind -> I, ite -> W, loop -> zJ
open Int renaming toNat -> zE, tmod -> zP, tdiv -> zQ
open Sum renaming inr -> zF, inl -> zG, elim -> zK
open List renaming drop -> zH, take -> zI, set -> zL, replicate -> zM, length -> zO
open Nat renaming cast -> zN
noncomputable section
namespace Go.AM.Lf
abbrev jF:Ty:=(.cons .str .nil)
abbrev gU:=den jF
abbrev oO:Ty:=(.cons .str (.cons (.int .u64) .nil))
abbrev GY:=den oO
abbrev qe:Ty:=(.cons .str (.cons .bool .nil))
abbrev Switch:=den qe
abbrev xi:Ty:=(.cons .str jF)
abbrev cv:=den xi
abbrev uy:Ty:=(.cons (.int .i64) (.cons (.int .i64) .nil))
abbrev xh:=den uy
abbrev sQ:Ty:=(.cons (.int .u8) (.cons (.int .u8) .nil))
abbrev B5:=den sQ
abbrev wI:Ty:=(.cons (.int .i64) (.cons (.sl .str) jF))
abbrev Answer:=den wI
abbrev cu:Ty:=(.cons (.sl .str) (.cons (.sl .str) .nil))
abbrev fU:=den cu
abbrev QW:Ty:=(.cons (.int .i64) (.cons (.int .i64) (.cons .bool (.cons (.int .u8) .nil))))
abbrev IX:=den QW
abbrev zm:Ty:=(.cons .bool (.cons (.sl (.int .u32)) (.cons (.sl (.int .u32)) .nil)))
abbrev Rat:=den zm
abbrev qw:Ty:=(.cons .str (.cons (.int .i64) (.cons .bool (.cons (.int .i64) .nil))))
abbrev Field:=den qw
abbrev xl:Ty:=(.cons .str (.cons (.int .i64) (.cons (.int .i64) (.cons .bool .nil))))
abbrev zd:=den xl
abbrev xn:Ty:=(.cons .str (.cons (.int .i64) (.cons .str (.cons .expr (.cons .expr .nil)))))
abbrev cx:=den xn
abbrev xk:Ty:=(.cons .str (.cons (.int .i64) (.cons (.int .i64) (.cons .expr (.cons .expr .nil)))))
abbrev Check:=den xk
abbrev qg:Ty:=(.cons .str (.cons zm .nil))
abbrev Param:=den qg
abbrev qk:Ty:=(.cons (.int .i64) (.cons zm .nil))
abbrev Term:=den qk
abbrev fc:Ty:=(.cons (.int .i64) (.cons .str (.cons zm (.cons .bool .nil))))
abbrev Op:=den fc
abbrev zx:Ty:=(.cons .bool (.cons .bool (.cons zm .nil)))
abbrev vn:=den zx
abbrev j5:Ty:=(.cons (.sl (.int .i64)) (.cons (.sl zm) .nil))
abbrev jg:=den j5
abbrev wN:Ty:=(.cons (.sl .str) (.cons (.sl .str) (.cons (.sl zm) .nil)))
abbrev wq:=den wN
abbrev zp:Ty:=(.cons (.int .i64) (.cons (.sl qk) (.cons zm .nil)))
abbrev vO:=den zp
abbrev B3:Ty:=(.cons (.sl zp) (.cons (.sl (.int .i64)) .nil))
abbrev zar:=den B3
abbrev XX:Ty:=(.cons (.sl zp) (.cons (.sl (.int .i64)) (.cons (.sl (.int .i64)) .nil)))
abbrev z6w:=den XX
abbrev qx:Ty:=(.cons (.sl qe) (.cons (.sl qg) (.cons (.sl xi) (.cons (.sl qw) (.cons (.sl xn) (.cons (.sl xk) .nil))))))
abbrev Form:=den qx
abbrev xj:Ty:=(.cons (.sl zm) (.cons (.sl .bool) (.cons (.sl zm) (.cons (.sl (.int .i64)) (.cons (.sl zx) (.cons (.sl .bool) .nil))))))
abbrev we:=den xj
abbrev uE:Ty:=(.cons qx XX)
abbrev ux:=den uE
abbrev qo:Ty:=(.cons qx (.cons xj (.cons cu (.cons (.int .i64) (.cons .bool .nil)))))
abbrev zk:=den qo
abbrev q9:=List Switch
abbrev z7:=List Int
abbrev qh:=List Param
abbrev xc:=List cv
abbrev qp:=List Field
abbrev zt:=List zo
abbrev dy:=List AM.Expr
abbrev qz:=List cx
abbrev qs:=List Check
abbrev zr:=List Rat
abbrev zn:=List Bool
abbrev wE:=List Term
abbrev zw:=List vO
abbrev qc:=List vn
abbrev U1:=List Op
abbrev fJ:=List Answer
def yN(a:Int):T Bool :=
 Y ((zA (97<=a))&&(zA (a<=122)))
def jt(a:Int):T Bool :=
 Y ((zA (48<=a))&&(zA (a<=57)))
def yy(a:Int):T Bool :=
 I (yN a) λb =>
 W b
  (Y true)
  (I (jt a) λc =>
 W c
  (Y true)
  (Y (a==95)))
def Q0(b:zo)(d:Int):Int->T (Int⊕(Unit⊕Bool))
 | a =>
 W (zA (a<d))
  (oI a b <|
 I (yy (vz b a)) λc =>
 W (!c)
  (Y (zF (zF false)))
  (Y (zG (ql (a+1)))))
  (Y (zF (zG ())))
def ZZ s1 x1 s:=zJ (Q0 s1 x1) s
def uV(a:zo):T Bool :=
 I (W (xw a [])
  (Y true)
  (W (zA (24<(a.length:Int)))
  (Y true)
  (oI 0 a <|
 I (yN (vz a 0)) λb =>
 Y (!b))):T Bool) λc =>
 W c
  (Y false)
  (I (ZZ a (a.length:Int) 0) <|
 zK (λ_ =>
 Y true)
  (λd =>
 Y d))
def gn(b:Switch):T Bool :=
 I (uV b.1) λa =>
 Y (!a)
def xp(b:q9)(d:Switch->T Bool)(e:Int):Int->T (Int⊕(Unit⊕Int))
 | a =>
 W (zA (a<e))
  (oI a b <|
 I (d (nth b a (zb qe))) λc =>
 W c
  (Y (zF (zF a)))
  (Y (zG (ql (a+1)))))
  (Y (zF (zG ())))
def kQ s1 f x s:=zJ (xp s1 f x) s
def xm(a:q9)(c:Switch->T Bool):T Int :=
 I (kQ a c (a.length:Int) 0) <|
 zK (λ_ =>
 Y (-1))
  (λb =>
 Y b)
def vK(b:q9)(c:Switch->T Bool):T Bool :=
 I (xm b c) λa =>
 Y (zA (0<=a))
def Qc(a:z7):T Bool :=
 .zl ((((a.length:Int)==0)=false)->(xb (ql ((a.length:Int)-1)) a.length)) <|
 Y (((a.length:Int)==0)||((nth a (ql ((a.length:Int)-1)) (zb (.int .u32))) != 0))
def tA  : z7->T (z7⊕z7)
 | a =>
 I (Qc a) λb =>
 W (!b)
  (.zl (jJ 0 (ql ((a.length:Int)-1)) a.length) <|
 Y (zG (jS (e:=(.int .u32)) 0 (ql ((a.length:Int)-1)) a)))
  (Y (zF a))
def XE(s:z7):T z7:=zJ (tA ) s
def ue(b:z7):T z7 :=
 I (XE  b) λa =>
 Y a
def yA(a:z7):T z7 :=
 let b:=0+a.length;  .zl (a=[]->∀ r,T.leads (.zl (ub 0 0 0 0 0 a.length 4) <|
 .zl (b=b) <|
 Y (zH 0 (zI (0+b) a)):T _) r->T.leads (Y []:T _) r) <|
 .zl (ub 0 0 0 0 0 a.length 4) <|
 .zl (b=b) <|
 Y (zH 0 (zI (0+b) a))
def lj(c:z7):T z7 :=
 I (ue c) λa =>
 I (yA a) λb =>
 Y b
def se(b:z7)(c:z7):Int->T (Int⊕(Unit⊕Int))
 | a =>
 W (zA (0<=a))
  (oI a b <|
 oI a c <|
 W ((nth b a (zb (.int .u32))) != (nth c a (zb (.int .u32))))
  (oI a b <|
 oI a c <|
 W (zA ((nth b a (zb (.int .u32)))<(nth c a (zb (.int .u32)))))
  (Y (zF (zF (-1))))
  (Y (zF (zF 1))))
  (Y (zG (ql (a-1)))))
  (Y (zF (zG ())))
def Gx a2 b2 s:=zJ (se a2 b2) s
def tw(d:z7)(e:z7):T Int :=
 I (ue d) λa =>
 I (ue e) λb =>
 W ((a.length:Int) != (b.length:Int))
  (W (zA ((a.length:Int)<(b.length:Int)))
  (Y (-1))
  (Y 1))
  (I (Gx a b (ql ((a.length:Int)-1))) <|
 zK (λ_ =>
 Y 0)
  (λc =>
 Y c))
def fp(b:Int)(c:Int)(a:Int):T (Int×Int) :=
 W ((a != 0)&&(zA (a<=b)))
  (.fail)
  (.zl (0<=(32:Int)) <|
 .zl ((wm a)≠0) <|
 .zl ((wm a)≠0) <|
 Y ((ba (wm (zQ (HU .u64 (Zx .u64 (wm b) 32) (wm c)) (wm a)))),(ba (zP (HU .u64 (Zx .u64 (wm b) 32) (wm c)) (wm a)))))
def pB(e:z7)(g:Int):(Int×Int×z7)->T ((Int×Int×z7)⊕((Int×z7)))
 | (d,b,a) =>
 W (zA (0<=b))
  (oI b e <|
 I (fp d (nth e b (zb (.int .u32))) g) λ(c,f) =>
 oI b a <|
 .zl (uT a.length a.length (0+(zE b)) a.length) <|
 oM a.length (zL a (0+(zE b)) c).length <|
 Y (zG (f,((ql (b-1)),(zL a (0+(zE b)) c)))))
  (oC a <|
 R a <|
 Y (zF (d,a)))
def UQ a1 b1 s:=zJ (pB a1 b1) s
def pS(a:z7)(e:Int):T (z7×Int) :=
 .zl (eY (a.length:Int) (a.length:Int) 4) <|
 oM (zE (a.length:Int)) (zM (zE (a.length:Int)) (0:Int)).length <|
 I (UQ a e (0,((ql ((a.length:Int)-1)),(zM (zE (a.length:Int)) 0)))) λ(c,b) =>
 R b <|
 I (ue (zH 0 (zI (0+b.length) b))) λd =>
 Y (d,c)
def l8(a:Int):T z7 :=
 .zl (0<=(32:Int)) <|
 I (ue ([(ba a),(ba (jx .u64 a 32))]:List Int)) λb =>
 Y b
def fq(b:Int):T Int :=
 let a:=bif (zA (65536<=b))then(jx .u32 b 16)else b;  .zl (((zA (65536<=b))=true)->(0<=(16:Int))) <|
 .zl (((zA (256<=a))=true)->(0<=(8:Int))) <|
 .zl (xb (wu8 (bif (zA (256<=a))then(jx .u32 a 8)else a)) ([0,1,2,2,3,3,3,3,4,4,4,4,4,4,4,4,5,5,5,5,5,5,5,5,5,5,5,5,5,5,5,5,6,6,6,6,6,6,6,6,6,6,6,6,6,6,6,6,6,6,6,6,6,6,6,6,6,6,6,6,6,6,6,6,7,7,7,7,7,7,7,7,7,7,7,7,7,7,7,7,7,7,7,7,7,7,7,7,7,7,7,7,7,7,7,7,7,7,7,7,7,7,7,7,7,7,7,7,7,7,7,7,7,7,7,7,7,7,7,7,7,7,7,7,7,7,7,7,8,8,8,8,8,8,8,8,8,8,8,8,8,8,8,8,8,8,8,8,8,8,8,8,8,8,8,8,8,8,8,8,8,8,8,8,8,8,8,8,8,8,8,8,8,8,8,8,8,8,8,8,8,8,8,8,8,8,8,8,8,8,8,8,8,8,8,8,8,8,8,8,8,8,8,8,8,8,8,8,8,8,8,8,8,8,8,8,8,8,8,8,8,8,8,8,8,8,8,8,8,8,8,8,8,8,8,8,8,8,8,8,8,8,8,8,8,8,8,8,8,8,8,8,8,8,8,8]:zo).length) <|
 Y (ql ((bif (zA (256<=a))then(ql ((bif (zA (65536<=b))then 16 else 0)+8))else(bif (zA (65536<=b))then 16 else 0))+(ql (vz [0,1,2,2,3,3,3,3,4,4,4,4,4,4,4,4,5,5,5,5,5,5,5,5,5,5,5,5,5,5,5,5,6,6,6,6,6,6,6,6,6,6,6,6,6,6,6,6,6,6,6,6,6,6,6,6,6,6,6,6,6,6,6,6,7,7,7,7,7,7,7,7,7,7,7,7,7,7,7,7,7,7,7,7,7,7,7,7,7,7,7,7,7,7,7,7,7,7,7,7,7,7,7,7,7,7,7,7,7,7,7,7,7,7,7,7,7,7,7,7,7,7,7,7,7,7,7,7,8,8,8,8,8,8,8,8,8,8,8,8,8,8,8,8,8,8,8,8,8,8,8,8,8,8,8,8,8,8,8,8,8,8,8,8,8,8,8,8,8,8,8,8,8,8,8,8,8,8,8,8,8,8,8,8,8,8,8,8,8,8,8,8,8,8,8,8,8,8,8,8,8,8,8,8,8,8,8,8,8,8,8,8,8,8,8,8,8,8,8,8,8,8,8,8,8,8,8,8,8,8,8,8,8,8,8,8,8,8,8,8,8,8,8,8,8,8,8,8,8,8,8,8,8,8,8,8] (wu8 (bif (zA (256<=a))then(jx .u32 a 8)else a))))))
def kE(b:Int):T Int :=
 I (fq b) λa =>
 Y (ql (32-a))
def WY(e:Int)(h:Int)(f:z7)(i:Int):(Int×z7)->T ((Int×z7)⊕z7)
 | (b,a)=>let c:=ql (b+1); let d:=zL a (0+(zE b)) (HU .u32 (wo a (0+(zE b)) (zb (.int .u32))) (ba (Zx .u64 (wm (nth f b (zb (.int .u32)))) e))); let g:=zL d (0+(zE c)) (ba (jx .u64 (Zx .u64 (wm (nth f b (zb (.int .u32)))) e) 32));
 W (zA (b<i))
  (oI b f <|
 .zl (0<=e) <|
 oI b a <|
 .zl (uT a.length a.length (0+(zE b)) a.length) <|
 oI b a <|
 .zl (uT a.length a.length (0+(zE b)) a.length) <|
 W (zA (c<h))
  (.zl (0<=(32:Int)) <|
 oI c a <|
 .zl (uT a.length a.length (0+(zE c)) d.length) <|
 oM a.length g.length <|
 Y (zG (c,g)))
  (oM a.length d.length <|
 Y (zG (c,d))))
  (oC a <|
 R a <|
 Y (zF a))
def WX by_1 n1 x x1 s:=zJ (WY by_1 n1 x x1) s
def sj(c:z7)(d:Int)(a:Int):T z7 :=
 .zl (eY a a 4) <|
 oM (zE a) (zM (zE a) (0:Int)).length <|
 I (WX d a c (c.length:Int) (0,(zM (zE a) 0))) λb =>
 oC b <|
 R b <|
 Y b
def ll(d:Int)(c:Int)(e:Int):(Int×Int)->T ((Int×Int)⊕Int)
 | (a,b) =>
 .zl ((0<=(32:Int))/\((((jx .u64 a 32) != 0)=false)->(0<=(32:Int)))) <|
 W (((jx .u64 a 32) != 0)||(zA ((HU .u64 (Zx .u64 b 32) (wm d))<(wm (a*(wm e))))))
  (.zl (0<=(32:Int)) <|
 W ((jx .u64 (wm (b+(wm c))) 32) != 0)
  (Y (zF (wm (a-1))))
  (Y (zG ((wm (a-1)),(wm (b+(wm c)))))))
  (Y (zF a))
def UN low1 b11 b21 s:=zJ (ll low1 b11 b21) s
def pR(b:Int)(c:Int)(e:Int)(a:Int)(f:Int):T Int :=
 .zl (0<=(32:Int)) <|
 .zl ((wm a)≠0) <|
 .zl ((wm a)≠0) <|
 I (UN e a f ((wm (zQ (HU .u64 (Zx .u64 (wm b) 32) (wm c)) (wm a))),(zP (HU .u64 (Zx .u64 (wm b) 32) (wm c)) (wm a)))) λd =>
 Y d
def yj(a:Int)(b:Int)(c:Int):T (Int×Int) :=
 .zl (0<=(31:Int)) <|
 Y ((ba ((ba (a-b))-c)),(jx .u32 (HU .u32 (Hu .u32 (N9 .u32 4294967295 a) b) (Hu .u32 (N9 .u32 4294967295 (N9 .u32 a b)) (ba ((ba (a-b))-c)))) 31))
def fk(a:Int)(b:Int)(c:Int):T (Int×Int) :=
 .zl (0<=(32:Int)) <|
 Y ((ba (wm ((wm ((wm a)+(wm b)))+(wm c)))),(ba (jx .u64 (wm ((wm ((wm a)+(wm b)))+(wm c))) 32)))
def lq(l:z7)(i:Int)(f:z7)(k:Int):((Nat×Nat)×Int×Int×Int×z7)->T (((Nat×Nat)×Int×Int×Int×z7)⊕(((Nat×Nat)×Int×Int×z7)))
 | (c,e,h,b,a)=>let d:=c.1+(zE b);
 W (zA (b<k))
  (oI b f <|
 .zl (xb b c.2) <|
 .zl (uT a.length a.length d a.length) <|
 I (yj (wo a d (zb (.int .u32))) (ba (wm (e+(wm (i*(wm (nth f b (zb (.int .u32))))))))) h) λ(g,j) =>
 .zl (xb b c.2) <|
 .zl (uT a.length a.length d a.length) <|
 .zl (0<=(32:Int)) <|
 R a <|
 .zl (a.length=(zL a d g).length) <|
 Y (zG (c,((jx .u64 (wm (e+(wm (i*(wm (nth f b (zb (.int .u32)))))))) 32),(j,((ql (b+1)),(zL a d g)))))))
  (R a <|
 R a <|
 Y (zF (c,(e,(h,a)))))
def XC b1 q1 x x1 s:=zJ (lq b1 q1 x x1) s
def lr(j:z7)(g:z7)(i:Int):((Nat×Nat)×Int×Int×z7)->T (((Nat×Nat)×Int×Int×z7)⊕(((Nat×Nat)×Int×z7)))
 | (c,f,b,a)=>let d:=c.1+(zE b);
 W (zA (b<i))
  (oI b g <|
 .zl (xb b c.2) <|
 .zl (uT a.length a.length d a.length) <|
 I (fk (wo a d (zb (.int .u32))) (nth g b (zb (.int .u32))) f) λ(e,h) =>
 .zl (xb b c.2) <|
 .zl (uT a.length a.length d a.length) <|
 R a <|
 .zl (a.length=(zL a d e).length) <|
 Y (zG (c,(h,((ql (b+1)),(zL a d e))))))
  (R a <|
 R a <|
 Y (zF (c,(f,a))))
def XD b2 x3 x4 s:=zJ (lr b2 x3 x4) s
def tz(o:(Nat×Nat))(b:z7)(p:Int)(h:z7):T (Bool×z7) :=
 let d:=zE (b.length:Int);  R h <|
 R h <|
 I (XC b p b (b.length:Int) (o,(0,(0,(0,h))))) λ(e,j,k,a) =>
 .zl (xb (b.length:Int) e.2) <|
 .zl (uT a.length a.length (e.1+d) a.length) <|
 I (yj (wo a (e.1+d) (zb (.int .u32))) (ba j) k) λ(l,m)=>let g:=zL a (e.1+d) l;
 .zl (xb (b.length:Int) e.2) <|
 .zl (uT a.length a.length (e.1+d) a.length) <|
 W (m==0)
  (.zl (a.length=g.length) <|
 Y (false,g))
  (R a <|
 .zl (a.length=g.length) <|
 I (XD b b (b.length:Int) (e,(0,(0,g)))) λ(f,n,c)=>let i:=zL c (f.1+d) (ba ((wo c (f.1+d) (zb (.int .u32)))+n));
 .zl (xb (b.length:Int) f.2) <|
 .zl (uT c.length c.length (f.1+d) c.length) <|
 .zl (xb (b.length:Int) f.2) <|
 .zl (uT c.length c.length (f.1+d) c.length) <|
 .zl (c.length=i.length) <|
 Y (true,i))
def nP(e:Int)(h:Int)(f:z7)(i:Int):(Int×z7)->T ((Int×z7)⊕z7)
 | (b,a)=>let c:=ql (b+1); let d:=zL a (0+(zE b)) (HU .u32 (wo a (0+(zE b)) (zb (.int .u32))) (ba (Zx .u64 (wm (nth f b (zb (.int .u32)))) e))); let g:=zL d (0+(zE c)) (ba (jx .u64 (Zx .u64 (wm (nth f b (zb (.int .u32)))) e) 32));
 W (zA (b<i))
  (oI b f <|
 .zl (0<=e) <|
 oI b a <|
 .zl (uT a.length a.length (0+(zE b)) a.length) <|
 oI b a <|
 .zl (uT a.length a.length (0+(zE b)) a.length) <|
 W (zA (c<h))
  (.zl (0<=(32:Int)) <|
 oI c a <|
 .zl (uT a.length a.length (0+(zE c)) d.length) <|
 oM a.length g.length <|
 Y (zG (c,g)))
  (oM a.length d.length <|
 Y (zG (c,d))))
  (oC a <|
 R a <|
 Y (zF a))
def Ko by_1 n1 x x1 s:=zJ (nP by_1 n1 x x1) s
def UO(c:z7)(d:Int)(a:Int):T z7 :=
 .zl (eY a a 4) <|
 oM (zE a) (zM (zE a) (0:Int)).length <|
 I (Ko d a c (c.length:Int) (0,(zM (zE a) 0))) λb =>
 R b <|
 Y (zH 0 (zI (0+b.length) b))
def lh(e:Int)(f:z7)(h:Int):(Int×z7)->T ((Int×z7)⊕z7)
 | (b,a)=>let d:=0+(zE (ql (b-1))); let c:=zL a (0+(zE b)) (HU .u32 (wo a (0+(zE b)) (zb (.int .u32))) (ba (jx .u64 (jx .u64 (Zx .u64 (wm (nth f b (zb (.int .u32)))) 32) e) 32))); let g:=zL c d (HU .u32 (wo c d (zb (.int .u32))) (ba (jx .u64 (Zx .u64 (wm (nth f b (zb (.int .u32)))) 32) e)));
 W (zA (b<h))
  (oI b f <|
 .zl (0<=(32:Int)) <|
 .zl (0<=e) <|
 oI b a <|
 .zl (uT a.length a.length (0+(zE b)) a.length) <|
 .zl (0<=(32:Int)) <|
 oI b a <|
 .zl (uT a.length a.length (0+(zE b)) a.length) <|
 W (zA (0<b))
  (oI (ql (b-1)) a <|
 .zl (uT a.length a.length d c.length) <|
 oI (ql (b-1)) a <|
 .zl (uT a.length a.length d c.length) <|
 oM a.length g.length <|
 Y (zG ((ql (b+1)),g)))
  (oM a.length c.length <|
 Y (zG ((ql (b+1)),c))))
  (oC a <|
 R a <|
 Y (zF a))
def UL by_ x x1 s:=zJ (lh by_ x x1) s
def mK(m:z7)(n:Int):T z7 :=
 let g:=Vs (lU n (-4096)) 4096; let d:=ql (zQ g (32:Int)); let c:=ql (zQ (ql (0-g)) (32:Int));  I (ue m) λf=>let a:=(f.length:Int); let i:=ql ((ql (d+a))+1); let b:=zE i;
 W (zA (g<0))
  (.zl (32≠(0:Int)) <|
 W (zA (a<=c))
  (Y [])
  (.zl (32≠(0:Int)) <|
 .zl (eY (ql (a-c)) (ql (a-c)) 4) <|
 .zl (jJ c a f.length) <|
 oM (zE (ql (a-c))) (zM (zE (ql (a-c))) (0:Int)).length <|
 I (UL (wm (zP (ql (0-g)) (32:Int))) (jS (e:=(.int .u32)) c a f) (zN (jS (e:=(.int .u32)) c a f).length:Int) (0,(zM (zE (ql (a-c))) 0))) λh =>
 R h <|
 I (ue (zH 0 (zI (0+h.length) h))) λj =>
 Y j))
  (.zl (32≠(0:Int)) <|
 .zl (eY i i 4) <|
 .zl (jJ d (zN b:Int) b) <|
 .zl (32≠(0:Int)) <|
 I (UO f (wm (zP g (32:Int))) (ql (a+1))) λk =>
 .zl (Xb b b (0+(zE d)) ((zE (zN b:Int))-(zE d)) (zM b (0:Int)).length) <|
 .zl (b=b) <|
 I (ue (zH 0 (zI (0+b) (yL (0+(zE d)) ((zE (zN b:Int))-(zE d)) (zM b 0) k)))) λl =>
 Y l)
def nQ(m:Int)(g:z7)(c:Int):(Int×z7×z7)->T ((Int×z7×z7)⊕((z7×z7)))
 | (b,a,d) =>
 W (zA (0<=b))
  (oI (ql (b+c)) a <|
 .zl (uT a.length a.length (0+(zE (ql (b+c)))) a.length) <|
 oI (ql ((ql (b+c))-1)) a <|
 .zl (uT a.length a.length (0+(zE (ql ((ql (b+c))-1)))) a.length) <|
 oI (ql ((ql (b+c))-2)) a <|
 .zl (uT a.length a.length (0+(zE (ql ((ql (b+c))-2)))) a.length) <|
 oI (ql (c-1)) g <|
 oI (ql (c-2)) g <|
 I (pR (wo a (0+(zE (ql (b+c)))) (zb (.int .u32))) (wo a (0+(zE (ql ((ql (b+c))-1)))) (zb (.int .u32))) (wo a (0+(zE (ql ((ql (b+c))-2)))) (zb (.int .u32))) (nth g (ql (c-1)) (zb (.int .u32))) (nth g (ql (c-2)) (zb (.int .u32)))) λh =>
 I (.zl (jJ b (ql ((ql (b+c))+1)) a.length) <|
 R a <|
 R a <|
 I (tz ((0+(zE b)),((zE (ql ((ql (b+c))+1)))-(zE b))) g h a) λ(k,f) =>
 W k
  (oC d <|
 .zl (zu a.length 0 a.length f.length) <|
 R f <|
 R d <|
 Y ((wm (h-1)),(f,d)))
  (oC d <|
 .zl (zu a.length 0 a.length f.length) <|
 R f <|
 R d <|
 Y (h,(f,d))):T ((Int×z7×z7))) λ(l,i,e)=>let j:=zL e (0+(zE b)) (ba l);
 oI b e <|
 .zl (uT e.length e.length (0+(zE b)) e.length) <|
 .zl (zu e.length 0 e.length j.length) <|
 oC i <|
 R i <|
 .zl (e.length=j.length) <|
 Y (zG ((ql (b-1)),(i,j))))
  (oC d <|
 oC a <|
 R a <|
 R d <|
 Y (zF (a,d)))
def Kp by_ d n s:=zJ (nQ by_ d n) s
def UP(i:z7)(c:z7):T (z7×z7) :=
 oI (ql ((c.length:Int)-1)) c <|
 I (kE (nth c (ql ((c.length:Int)-1)) (zb (.int .u32)))) λf =>
 I (sj i (wm f) (ql ((i.length:Int)+1))) λg =>
 I (sj c (wm f) (c.length:Int)) λa=>let j:=ql ((ql ((i.length:Int)-(a.length:Int)))+1); let b:=zE j;
 .zl (eY j j 4) <|
 R a <|
 .zl (zu b 0 b (zM b (0:Int)).length) <|
 oC g <|
 R g <|
 .zl (b=(zM b (0:Int)).length) <|
 I (Kp (wm f) (zH 0 (zI (0+a.length) a)) (a.length:Int) ((ql ((zN b:Int)-1)),(g,(zM b 0)))) λ(d,h) =>
 R h <|
 R d <|
 I (ue (zH 0 (zI (0+h.length) h))) λk =>
 .zl (jJ 0 (a.length:Int) (zH 0 (zI (0+d.length) d)).length) <|
 I (mK (jS (e:=(.int .u32)) 0 (a.length:Int) (zH 0 (zI (0+d.length) d))) (ql (0-(ql (wm f))))) λl =>
 Y (k,l)
def dQ(j:z7)(k:z7):T (z7×z7×Bool) :=
 I (ue j) λb =>
 I (ue k) λa =>
 W ((a.length:Int)==0)
  (Y ([],([],false)))
  (I (tw b a) λc =>
 W (zA (c<0))
  (I (lj b) λd =>
 Y ([],(d,true)))
  (W ((a.length:Int)==1)
  (oI 0 a <|
 I (pS b (nth a 0 (zb (.int .u32)))) λ(e,f) =>
 I (l8 (wm f)) λg =>
 Y (e,(g,true)))
  (I (UP b a) λ(h,i) =>
 Y (h,(i,true)))))
def si  : (z7×z7)->T ((z7×z7)⊕z7)
 | (b,a) =>
 W (zA (0<(a.length:Int)))
  (I (dQ b a) λ(d,c,e) =>
 Y (zG (a,c)))
  (Y (zF b))
def Gy(s:(z7×z7)):T z7:=zJ (si ) s
def Wl(d:z7)(e:z7):T z7 :=
 I (lj d) λa =>
 I (lj e) λb =>
 I (Gy  (a,b)) λc =>
 Y c
def tW(a:Rat):T Bool :=
 I (I (Qc a.2.1) λb =>
 W (!b)
  (Y true)
  (I (Qc a.2.2.1) λc =>
 W (!c)
  (Y true)
  (W ((a.2.2.1.length:Int)==0)
  (Y true)
  (W a.1
  (Y ((a.2.1.length:Int)==0))
  (Y false)))):T Bool) λd =>
 W d
  (Y false)
  (I (Wl a.2.1 a.2.2.1) λe =>
 I (l8 1) λf =>
 I (tw e f) λg =>
 Y (g==0))
def sr(g:Bool)(h:z7)(i:z7):T Rat :=
 I (lj h) λa =>
 I (lj i) λb =>
 W (((a.length:Int)==0)||((b.length:Int)==0))
  (I (l8 1) λd =>
 Y (false,(([]:List Int),(d,()))))
  (I (Wl a b) λc =>
 I (dQ a c) λ(e,j,k) =>
 I (dQ b c) λ(f,l,m) =>
 Y (g,(e,(f,()))))
def vJ(a:Rat):T Rat :=
 I (sr a.1 a.2.1 a.2.2.1) λb =>
 Y b
def cS(b:Rat):T Bool :=
 I (vJ b) λa =>
 Y ((zA (16<(a.2.1.length:Int)))||(zA (16<(a.2.2.1.length:Int))))
def gp(a:Param):T Bool :=
 I (uV a.1) λb =>
 W (!b)
  (Y true)
  (I (tW a.2.1) λc =>
 W (!c)
  (Y true)
  (I (cS a.2.1) λd =>
 Y d))
def j8(b:qh)(d:Param->T Bool)(e:Int):Int->T (Int⊕(Unit⊕Int))
 | a =>
 W (zA (a<e))
  (oI a b <|
 I (d (nth b a (zb qg))) λc =>
 W c
  (Y (zF (zF a)))
  (Y (zG (ql (a+1)))))
  (Y (zF (zG ())))
def oL s1 f x s:=zJ (j8 s1 f x) s
def vN(a:qh)(c:Param->T Bool):T Int :=
 I (oL a c (a.length:Int) 0) <|
 zK (λ_ =>
 Y (-1))
  (λb =>
 Y b)
def vV(b:qh)(c:Param->T Bool):T Bool :=
 I (vN b c) λa =>
 Y (zA (0<=a))
def lL(a:zo):T Bool :=
 W (xw a [])
  (Y true)
  (I (uV a) λb =>
 Y b)
def gq(a:cv):T Bool :=
 I (uV a.1) λb =>
 W (!b)
  (Y true)
  (I (lL a.2.1) λc =>
 Y (!c))
def yE(b:xc)(d:cv->T Bool)(e:Int):Int->T (Int⊕(Unit⊕Int))
 | a =>
 W (zA (a<e))
  (oI a b <|
 I (d (nth b a (zb xi))) λc =>
 W c
  (Y (zF (zF a)))
  (Y (zG (ql (a+1)))))
  (Y (zF (zG ())))
def pL s1 f x s:=zJ (yE s1 f x) s
def j3(a:xc)(c:cv->T Bool):T Int :=
 I (pL a c (a.length:Int) 0) <|
 zK (λ_ =>
 Y (-1))
  (λb =>
 Y b)
def yB(b:xc)(c:cv->T Bool):T Bool :=
 I (j3 b c) λa =>
 Y (zA (0<=a))
def tK(b:Form):T Bool :=
 I (vK b.1 (λa=>gn a)) λc =>
 W (!c)
  (I (vV b.2.1 (λa=>gp a)) λd =>
 W (!d)
  (I (yB b.2.2.1 (λa=>gq a)) λe =>
 Y (!e))
  (Y false))
  (Y false)
def lK(a:Int)(b:Int)(c:Int):T Bool :=
 Y ((zA ((lU b 0)<=a))&&(zA (a<c)))
def oD(i:Form)(c:qp)(j:Int):(Int×Int)->T ((Int×Int)⊕(Unit⊕Bool))
 | (h,b)=>let a:=nth c b (zb qw);
 W (zA (b<j))
  (oI b c <|
 I (I (uV a.1) λd =>
 W (!d)
  (Y (true,a))
  (I (lK a.2.1 h (i.2.2.1.length:Int)) λe =>
 W (!e)
  (Y (true,a))
  (W (zA (a.2.2.2.1<(0:Int)))
  (Y (true,a))
  (Y ((zA ((9:Int)<a.2.2.2.1)),a)))):T ((Bool×Field))) λ(f,g) =>
 W f
  (Y (zF (zF false)))
  (Y (zG (g.2.1,(ql (b+1))))))
  (Y (zF (zG ())))
def oB f1 x x1 s:=zJ (oD f1 x x1) s
def pJ(a:Form):T Bool :=
 I (oB a a.2.2.2.1 (a.2.2.2.1.length:Int) (0,0)) <|
 zK (λ_ =>
 Y true)
  (λb =>
 Y b)
def bY  : T zt :=
 Y ([[61],[60],[60,61]]:List zo)
def We(a:Int):T Int :=
 W (bif (a==1)then(a==1)else(a==2))
  (Y 0)
  (W (a==7)
  (Y 1)
  (W (a==3)
  (Y 2)
  (W (a==4)
  (Y 2)
  (W (a==5)
  (Y 2)
  (W (a==6)
  (Y 2)
  (Y (-1)))))))
def Vy(j:z7)(d:Int)(h:Int)(k:z7)(l:Int)(m:Int)(g:z7)(i:Int):(Int×Int×z7)->T ((Int×Int×z7)⊕((Int×z7)))
 | (f,b,a)=>let c:=0+(zE (ql (d+b))); let e:=wm (f+(wm ((wm ((wm h)*(wm (nth g b (zb (.int .u32))))))+(wm (wo a c (zb (.int .u32)))))));
 W (zA (b<i))
  (oI b g <|
 oI (ql (d+b)) a <|
 .zl (uT a.length a.length c a.length) <|
 oI (ql (d+b)) a <|
 .zl (uT a.length a.length c a.length) <|
 .zl (0<=(32:Int)) <|
 oM a.length (zL a c (ba e)).length <|
 Y (zG ((jx .u64 e 32),((ql (b+1)),(zL a c (ba e))))))
  (oC a <|
 R a <|
 Y (zF (f,a)))
def Vw b3 i v x3 x4 x5 x6 x7 s:=zJ (Vy b3 i v x3 x4 x5 x6 x7) s
def Vx(d:z7)(e:z7)(h:Int):(Int×z7)->T ((Int×z7)⊕z7)
 | (a,c)=>let f:=0+(zE (ql (a+(d.length:Int))));
 W (zA (a<h))
  (oI a e <|
 oC c <|
 R c <|
 I (Vw d a (nth e a (zb (.int .u32))) e h a d (d.length:Int) (0,(0,c))) λ(g,b) =>
 oI (ql (a+(d.length:Int))) b <|
 .zl (uT b.length b.length f b.length) <|
 oM b.length (zL b f (ba g)).length <|
 Y (zG ((ql (a+1)),(zL b f (ba g)))))
  (oC c <|
 R c <|
 Y (zF c))
def Vv b2 x x1 s:=zJ (Vx b2 x x1) s
def iZ(f:z7)(g:z7):T z7 :=
 I (ue f) λb =>
 I (ue g) λd=>let a:=ql ((b.length:Int)+(d.length:Int));
 .zl (eY a a 4) <|
 oM (zE a) (zM (zE a) (0:Int)).length <|
 I (Vv d b (b.length:Int) (0,(zM (zE a) 0))) λc =>
 R c <|
 I (ue (zH 0 (zI (0+c.length) c))) λe =>
 Y e
def Vh(e:Int):(z7×Int)->T ((z7×Int)⊕z7)
 | (a,b) =>
 W (zA (b<e))
  (I (l8 10) λc =>
 I (iZ a c) λd =>
 Y (zG (d,(ql (b+1)))))
  (Y (zF a))
def Vg x s:=zJ (Vh x) s
def Uf(c:Int):T z7 :=
 I (l8 1) λa =>
 I (Vg c (a,0)) λb =>
 Y b
def Xc(a:Rat):T zo :=
 W a.1
  (Y [45])
  (Y [])
def jj  : ((Nat×Nat)×Int×Int×z7)->T (((Nat×Nat)×Int×Int×z7)⊕z7)
 | (b,c,d,a)=>let e:=zL a (b.1+(zE c)) (wo a (b.1+(zE d)) (zb (.int .u8))); let f:=zL e (b.1+(zE d)) (wo a (b.1+(zE c)) (zb (.int .u8)));
 W (zA (c<d))
  (.zl (xb d b.2) <|
 .zl (uT a.length a.length (b.1+(zE d)) a.length) <|
 .zl (xb c b.2) <|
 .zl (uT a.length a.length (b.1+(zE c)) a.length) <|
 .zl (xb c b.2) <|
 .zl (uT a.length a.length (b.1+(zE c)) a.length) <|
 .zl (xb d b.2) <|
 .zl (uT a.length a.length (b.1+(zE d)) e.length) <|
 R a <|
 .zl (a.length=f.length) <|
 Y (zG (b,((ql (c+1)),((ql (d-1)),f)))))
  (R a <|
 Y (zF a))
def dw(s:((Nat×Nat)×Int×Int×z7)):T z7:=zJ (jj ) s
def kG(c:(Nat×Nat))(a:z7):T z7 :=
 R a <|
 R a <|
 I (dw  (c,(0,((ql ((zN c.2:Int)-1)),a)))) λb =>
 R b <|
 Y b
def lf(e:z7):(Int×Int×z7)->T ((Int×Int×z7)⊕z7)
 | (b,c,a)=>let d:=a++([(vz [48,49,50,51,52,53,54,55,56,57] (zP b (10:Int)))]:List Int);
 W (zA (c<9))
  (.zl (10≠(0:Int)) <|
 oI (zP b (10:Int)) ([48,49,50,51,52,53,54,55,56,57]:zo) <|
 oA a 1 <|
 .zl (10≠(0:Int)) <|
 oM (a.length+1) d.length <|
 Y (zG ((ba (zQ b (10:Int))),((ql (c+1)),d))))
  (oC a <|
 R a <|
 Y (zF a))
def Qg q1 s:=zJ (lf q1) s
def l9  : (z7×z7)->T ((z7×z7)⊕z7)
 | (d,a) =>
 W (zA (0<(d.length:Int)))
  (I (pS d 1000000000) λ(c,e) =>
 oC a <|
 R a <|
 I (Qg c (e,(0,a))) λb =>
 oC b <|
 R b <|
 Y (zG (c,b)))
  (oC a <|
 R a <|
 Y (zF a))
def Qf(s:(z7×z7)):T z7:=zJ (l9 ) s
def lg  : ((Nat×Nat)×z7)->T (((Nat×Nat)×z7)⊕(((Nat×Nat)×z7)))
 | (b,a)=>let c:=ql ((zN b.2:Int)-1);
 .zl (((zA (1<(zN b.2:Int)))=true)->((xb c b.2)/\(uT a.length a.length (b.1+(zE c)) a.length))) <|
 W ((zA (1<(zN b.2:Int)))&&((wo a (b.1+(zE c)) (zb (.int .u8)))==48))
  (.zl (jJ 0 c b.2) <|
 R a <|
 R a <|
 Y (zG (((b.1+(zE 0)),((zE c)-(zE 0))),a)))
  (R a <|
 R a <|
 Y (zF (b,a)))
def UK(s:((Nat×Nat)×z7)):T (((Nat×Nat)×z7)):=zJ (lg ) s
def mJ(f:z7):T zo :=
 I (lj f) λd =>
 W ((d.length:Int)==0)
  (Y [48])
  (oZ <|
 I (Qf  (d,[])) λa =>
 R a <|
 R a <|
 I (UK  ((0,a.length),a)) λ(b,c) =>
 R c <|
 R c <|
 I (kG b c) λe =>
 .zl (c.length=e.length) <|
 Y (jb (zH b.1 (zI (b.1+b.2) e))))
def strings_Repeat(b:zo)(a:Int):T zo :=
 .zl (0<=a/\a<=9223372036854775807/\b.length*(zE a)<=140737488355328) <|
 Y (HX b (zE a))
def tc(a:zo)(e:Int):T zo :=
 W (e==0)
  (Y a)
  (I (strings_Repeat [48] (lU 0 (ql ((ql (e+1))-(a.length:Int))))) λb=>let d:=((cat b a).length:Int); let c:=ql (d-e);
 oK b a <|
 .zl (jJ 0 c (cat b a).length) <|
 oK (iv 0 c (cat b a)) [46] <|
 .zl (jJ c d (cat b a).length) <|
 oK (cat (iv 0 c (cat b a)) [46]) (iv c d (cat b a)) <|
 Y (cat (cat (iv 0 c (cat b a)) [46]) (iv c d (cat b a))))
def ZO  : (Int×Rat)->T ((Int×Rat)⊕(Rat⊕(zo×Bool×Rat)))
 | (b,a) =>
 W (zA (b<61))
  (I (Uf b) λe =>
 I (iZ a.2.1 e) λf =>
 I (dQ f a.2.2.1) λ(g,h,j) =>
 W ((h.length:Int)==0)
  (I (Xc a) λc =>
 I (mJ g) λi =>
 I (tc i b) λd =>
 oK c d <|
 Y (zF (zF ((cat c d),(true,a)))))
  (Y (zG ((ql (b+1)),a))))
  (Y (zF (zG a)))
def ZN(s:(Int×Rat)):T (Rat⊕(zo×Bool×Rat)):=zJ (ZO ) s
def Z8(d:Rat):T (zo×Bool) :=
 I (vJ d) λa =>
 I (ZN  (0,a)) <|
 zK (λe =>
 Y ([],false))
  (λ(b,c,f) =>
 Y (b,c))
def Q1(a:Rat):T Bool :=
 I (I (tW a) λb =>
 W (!b)
  (Y true)
  (W a.1
  (Y true)
  (I (cS a) λc =>
 Y c)):T Bool) λd =>
 W d
  (Y false)
  (I (Z8 a) λ(f,e) =>
 Y e)
def nG(a:Rat):T Bool :=
 W (!a.1)
  (W ((a.2.1.length:Int)==0)
  (W ((a.2.2.1.length:Int)==0)
  (Y true)
  (I (tW a) λb =>
 Y b))
  (Y false))
  (Y false)
def nF(a:AM.Expr):T Bool :=
 I (We (Expr.kind a)) λb =>
 W (((Expr.kids a).length:Int) != b)
  (Y false)
  (W ((Expr.kind a)==1)
  (I (Q1 (Expr.num a)) λc =>
 W c
  (Y (xw (Expr.name a) []))
  (Y false))
  (W ((Expr.kind a)==2)
  (I (nG (Expr.num a)) λd =>
 W d
  (I (uV (Expr.name a)) λe =>
 Y e)
  (Y false))
  (I (nG (Expr.num a)) λf =>
 W f
  (Y (xw (Expr.name a) []))
  (Y false))))
def ni(c:AM.Expr->Int->Int->T (Bool×Int))(d:AM.Expr)(e:Int)(f:Int):T (Bool×Int) :=
 I (c d (ql (e+1)) f) λ(a,b) =>
 Y ((!a),b)
def wW(g:AM.Expr->Int->Int->T (Bool×Int))(e:dy)(h:Int):((Int×Unit)×Int×Int)->T (((Int×Unit)×Int×Int)⊕(Int⊕(Int×Int)))
 | (c,a,d) =>
 W (zA (a<h))
  (oI a e <|
 I ((ni g) (nth e a (zb .expr)) c.1 d) λ(f,b) =>
 W f
  (Y (zF (zF (a,b))))
  (Y (zG ((c.1,()),((ql (a+1)),b)))))
  (Y (zF (zG d)))
def wB self_expr_may s1 x s:=zJ (wW self_expr_may s1 x) s
def vo(e:AM.Expr->Int->Int->T (Bool×Int))(a:dy)(f:(Int×Unit))(g:Int):T (Int×Int) :=
 I (wB e a (a.length:Int) ((f.1,()),(0,g))) <|
 zK (λb =>
 Y ((-1),b))
  (λ(c,d) =>
 Y (c,d))
def wV(c:AM.Expr->Int->Int->T (Bool×Int))(d:dy)(e:(Int×Unit))(f:Int):T (Bool×Int) :=
 I ((vo c) d (e.1,()) f) λ(a,b) =>
 Y ((zA (0<=a)),b)
def iU(i:AM.Expr->Int->Int->T (Bool×Int))(c:AM.Expr)(d:Int)(a:Int):T (Bool×Int) :=
 I (W (zA ((ql (a-1))<0))
  (Y (true,(ql (a-1))))
  (W (zA (32<=d))
  (Y (true,(ql (a-1))))
  (I (nF c) λe =>
 Y ((!e),(ql (a-1))))):T ((Bool×Int))) λ(f,b) =>
 W f
  (Y (false,b))
  (I ((wV i) (Expr.kids c) (d,()) b) λ(g,h) =>
 Y ((!g),h))
def Q2(e:AM.Expr)(deep:Int)(left:Int):T (Bool×Int):=T.fix (λF x=>iU (λy0 y1 y2=>F (y0,y1,y2)) x.1 x.2.1 x.2.2) (e,deep,left)
def iT(b:AM.Expr):T Bool :=
 I (Q2 b 0 256) λ(a,c) =>
 Y a
def yl  : T zt :=
 Y ([[114,101,113,117,105,114,101,100],[115,116,114,111,110,103],[109,101,100,105,117,109],[119,101,97,107]]:List zo)
def yk(a:cx):T Bool :=
 I (uV a.1) λb =>
 W (!b)
  (Y true)
  (W (zA (a.2.1<(0:Int)))
  (Y true)
  (I (yl) λc =>
 W (zA ((c.length:Int)<=a.2.1))
  (Y true)
  (I (lL a.2.2.1) λd =>
 W (!d)
  (Y true)
  (I (iT a.2.2.2.1) λe =>
 W (!e)
  (Y true)
  (I (iT a.2.2.2.2.1) λf =>
 Y (!f))))))
def dv(b:qz)(d:cx->T Bool)(e:Int):Int->T (Int⊕(Unit⊕Int))
 | a =>
 W (zA (a<e))
  (oI a b <|
 I (d (nth b a (zb xn))) λc =>
 W c
  (Y (zF (zF a)))
  (Y (zG (ql (a+1)))))
  (Y (zF (zG ())))
def pM s1 f x s:=zJ (dv s1 f x) s
def bw(a:qz)(c:cx->T Bool):T Int :=
 I (pM a c (a.length:Int) 0) <|
 zK (λ_ =>
 Y (-1))
  (λb =>
 Y b)
def yC(b:qz)(c:cx->T Bool):T Bool :=
 I (bw b c) λa =>
 Y (zA (0<=a))
def oz(l:Form)(c:qs)(m:Int):(Int×Int)->T ((Int×Int)⊕(Unit⊕Bool))
 | (k,b)=>let a:=nth c b (zb xk);
 W (zA (b<m))
  (oI b c <|
 I (I (uV a.1) λd =>
 W (!d)
  (Y (true,a))
  (I (lK a.2.1 k (l.2.2.1.length:Int)) λe =>
 W (!e)
  (Y (true,a))
  (W (zA (a.2.2.1<(0:Int)))
  (Y (true,a))
  (I (bY) λf =>
 W (zA ((f.length:Int)<=a.2.2.1))
  (Y (true,a))
  (I (iT (Expr.mk (Expr.kind a.2.2.2.1) ((Expr.num a.2.2.2.1).1,((Expr.num a.2.2.2.1).2.1,((Expr.num a.2.2.2.1).2.2.1,()))) (Expr.name a.2.2.2.1) (Expr.kids a.2.2.2.1))) λg =>
 W (!g)
  (Y (true,a))
  (I (iT (Expr.mk (Expr.kind a.2.2.2.2.1) ((Expr.num a.2.2.2.2.1).1,((Expr.num a.2.2.2.2.1).2.1,((Expr.num a.2.2.2.2.1).2.2.1,()))) (Expr.name a.2.2.2.2.1) (Expr.kids a.2.2.2.2.1))) λh =>
 Y ((!h),a)))))):T ((Bool×Check))) λ(i,j) =>
 W i
  (Y (zF (zF false)))
  (Y (zG (j.2.1,(ql (b+1))))))
  (Y (zF (zG ())))
def oy f1 x x1 s:=zJ (oz f1 x x1) s
def pI(a:Form):T Bool :=
 I (oy a a.2.2.2.2.2.1 (a.2.2.2.2.2.1.length:Int) (0,0)) <|
 zK (λ_ =>
 I (yC a.2.2.2.2.1 (λb=>yk b)) λc =>
 Y (!c))
  (λd =>
 Y d)
def tR(v:Unit)(l:List Int):T (Unit×List Int):=Y (v,l)
def xr(b:zo)(e:Unit)(c:z7):T (Int×Unit×z7) :=
 oC c <|
 R c <|
 I (tR () c) λ(d,a) =>
 .zl (ub a.length a.length 0 a.length a.length (bytesOf b).length 1) <|
 oM (a.length+(bytesOf b).length) (a++(bytesOf b)).length <|
 Y ((b.length:Int),((),(a++(bytesOf b))))
def gL(g:Rat):T zo :=
 I (vJ g) λa =>
 I (Xc a) λb =>
 I (mJ a.2.1) λc =>
 oK b c <|
 I (l8 1) λe =>
 I (tw a.2.2.1 e) λf =>
 W (f != 0)
  (I (mJ a.2.2.1) λd =>
 oK [47] d <|
 oK (cat b c) (cat [47] d) <|
 Y (cat (cat b c) (cat [47] d)))
  (Y (cat b c))
def sI(a:zo):T zo :=
 W (xw a [])
  (Y [])
  (oK [32,119,104,101,110,32] a <|
 Y (cat [32,119,104,101,110,32] a))
def strconv_Itoa(a:Int):T zo :=
 .zl ((-9223372036854775808)<=a/\a<=9223372036854775807) <|
 Y (Kh a)
def tJ(a:Field):T zo :=
 let c:=cat [102,105,101,108,100,32] a.1; let b:=bif a.2.2.1 then(cat c [32,109,117,115,116])else c;  oK [102,105,101,108,100,32] a.1 <|
 .zl ((a.2.2.1=true)->((c.length+([32,109,117,115,116]:zo).length)<=4611686018427387904)) <|
 W (zA ((0:Int)<a.2.2.2.1))
  (I (strconv_Itoa a.2.2.2.1) λe=>let d:=cat [32,115,99,97,108,101,32] e;
 oK [32,115,99,97,108,101,32] e <|
 oK b d <|
 oK (cat b d) [10] <|
 Y (cat (cat b d) [10]))
  (oK b [10] <|
 Y (cat b [10]))
def mC(a:AM.Expr):T Int :=
 W (bif ((Expr.kind a)==3)then((Expr.kind a)==3)else((Expr.kind a)==4))
  (Y 1)
  (W (bif ((Expr.kind a)==5)then((Expr.kind a)==5)else((Expr.kind a)==6))
  (Y 2)
  (W ((Expr.kind a)==7)
  (Y 3)
  (Y 4)))
def dK(c:AM.Expr->T zo)(b:AM.Expr)(f:Int):T zo :=
 I (mC b) λd =>
 W (zA (d<f))
  (I (c b) λa =>
 oK [40] a <|
 oK (cat [40] a) [41] <|
 Y (cat (cat [40] a) [41]))
  (I (c b) λe =>
 Y e)
def gY(d:AM.Expr->T zo)(a:AM.Expr):T zo :=
 I (W ((Expr.kind a)==1)
  (I (Z8 (Expr.num a)) λ(g,k) =>
 Y (zF g))
  (W ((Expr.kind a)==2)
  (Y (zF (Expr.name a)))
  (W ((Expr.kind a)==7)
  (oI 0 (Expr.kids a) <|
 I ((dK d) (nth (Expr.kids a) 0 (zb .expr)) 3) λe =>
 oK [45] e <|
 Y (zF (cat [45] e)))
  (W ((Expr.kind a)==3)
  (Y (zG [32,43,32]))
  (W ((Expr.kind a)==4)
  (Y (zG [32,45,32]))
  (W ((Expr.kind a)==5)
  (Y (zG [32,42,32]))
  (W ((Expr.kind a)==6)
  (Y (zG [32,47,32]))
  (Y (zG [])))))))):T (zo⊕zo)) <|
 zK (λb =>
 oI 0 (Expr.kids a) <|
 I (mC a) λh =>
 I ((dK d) (nth (Expr.kids a) 0 (zb .expr)) h) λc =>
 oK c b <|
 oI 1 (Expr.kids a) <|
 I (mC a) λi =>
 I ((dK d) (nth (Expr.kids a) 1 (zb .expr)) (ql (i+1))) λf =>
 oK (cat c b) f <|
 Y (cat (cat c b) f))
  (λj =>
 Y j)
def Q3(e:AM.Expr):T zo:=T.fix (λF x=>gY (λy0=>F (y0)) x) e
def rP(a:AM.Expr):T zo :=
 I (iT a) λb =>
 W (!b)
  (Y [])
  (I (Q3 a) λc =>
 Y c)
def nY(e:AM.Expr)(a:zo)(f:AM.Expr):T zo :=
 I (rP e) λc=>let b:=cat (cat [32,58,32] c) [32];
 oK [32,58,32] c <|
 oK (cat [32,58,32] c) [32] <|
 oK b a <|
 oK (cat b a) [32] <|
 I (rP f) λd =>
 oK (cat (cat b a) [32]) d <|
 oK (cat (cat (cat b a) [32]) d) [10] <|
 Y (cat (cat (cat (cat b a) [32]) d) [10])
def oH(f:Int)(k:Form)(d:qp)(g:Int):(Int×Unit×z7)->T ((Int×Unit×z7)⊕((Unit×z7)))
 | (b,j,a) =>
 W (zA (b<g))
  (oI b d <|
 W ((nth d b (zb qw)).2.1==f)
  (I (tJ (nth d b (zb qw))) λe =>
 oC a <|
 R a <|
 I (xr e () a) λ(h,i,c) =>
 oC c <|
 R c <|
 Y (zG ((ql (b+1)),((),c))))
  (oC a <|
 R a <|
 Y (zG ((ql (b+1)),((),a)))))
  (oC a <|
 R a <|
 Y (zF ((),a)))
def oF i1 f1 x x1 s:=zJ (oH i1 f1 x x1) s
def fu(h:Int)(g:qs)(i:Int):(Int×Unit×z7)->T ((Int×Unit×z7)⊕((Unit×z7)))
 | (c,l,b)=>let a:=nth g c (zb xk);
 W (zA (c<i))
  (oI c g <|
 W (a.2.1==h)
  (oK [99,104,101,99,107,32] a.1 <|
 I (bY) λe =>
 .zl (xb a.2.2.1 e.length) <|
 I (nY (Expr.mk (Expr.kind a.2.2.2.1) ((Expr.num a.2.2.2.1).1,((Expr.num a.2.2.2.1).2.1,((Expr.num a.2.2.2.1).2.2.1,()))) (Expr.name a.2.2.2.1) (Expr.kids a.2.2.2.1)) (nth e a.2.2.1 (zb .str)) (Expr.mk (Expr.kind a.2.2.2.2.1) ((Expr.num a.2.2.2.2.1).1,((Expr.num a.2.2.2.2.1).2.1,((Expr.num a.2.2.2.2.1).2.2.1,()))) (Expr.name a.2.2.2.2.1) (Expr.kids a.2.2.2.2.1))) λf =>
 oK (cat [99,104,101,99,107,32] a.1) f <|
 oC b <|
 R b <|
 I (xr (cat (cat [99,104,101,99,107,32] a.1) f) () b) λ(j,k,d) =>
 oC d <|
 R d <|
 Y (zG ((ql (c+1)),((),d))))
  (oC b <|
 R b <|
 Y (zG ((ql (c+1)),((),b)))))
  (oC b <|
 R b <|
 Y (zF ((),b)))
def oG i2 x3 x4 s:=zJ (fu i2 x3 x4) s
def pK(a:Form)(b:Int)(m:Unit)(g:z7):T (Unit×z7) :=
 let h:=cat [112,97,103,101,32] (nth a.2.2.1 b (zb xi)).1;  oI b a.2.2.1 <|
 oK [112,97,103,101,32] (nth a.2.2.1 b (zb xi)).1 <|
 oI b a.2.2.1 <|
 I (sI (nth a.2.2.1 b (zb xi)).2.1) λc =>
 oK h c <|
 oK (cat h c) [10] <|
 oC g <|
 R g <|
 I (xr (cat (cat h c) [10]) () g) λ(i,j,d) =>
 oC d <|
 R d <|
 I (oF b a a.2.2.2.1 (a.2.2.2.1.length:Int) (0,((),d))) λ(k,e) =>
 oC e <|
 R e <|
 I (oG b a.2.2.2.2.2.1 (a.2.2.2.2.2.1.length:Int) (0,((),e))) λ(l,f) =>
 oC f <|
 R f <|
 Y ((),f)
def pZ(v:Unit)(l:List Int):T (zo×Unit):=z4n l
def sF(k:Form)(e:q9)(g:Int):(Int×Unit×z7)->T ((Int×Unit×z7)⊕((Unit×z7)))
 | (b,j,a)=>let c:=nth e b (zb qe); let f:=bif c.2.1 then[32,111,110,10]else[32,111,102,102,10];
 W (zA (b<g))
  (oI b e <|
 oK [115,119,105,116,99,104,32] c.1 <|
 oK (cat [115,119,105,116,99,104,32] c.1) f <|
 oC a <|
 R a <|
 I (xr (cat (cat [115,119,105,116,99,104,32] c.1) f) () a) λ(h,i,d) =>
 oC d <|
 R d <|
 Y (zG ((ql (b+1)),((),d))))
  (oC a <|
 R a <|
 Y (zF ((),a)))
def sB f1 x x1 s:=zJ (sF f1 x x1) s
def sG(l:Form)(g:qh)(h:Int):(Int×Unit×z7)->T ((Int×Unit×z7)⊕((Unit×z7)))
 | (c,k,a)=>let b:=nth g c (zb qg); let d:=cat [112,97,114,97,109,32] b.1;
 W (zA (c<h))
  (oI c g <|
 oK [112,97,114,97,109,32] b.1 <|
 oK d [32] <|
 I (gL (b.2.1.1,(b.2.1.2.1,(b.2.1.2.2.1,())))) λe =>
 oK (cat d [32]) e <|
 oK (cat (cat d [32]) e) [10] <|
 oC a <|
 R a <|
 I (xr (cat (cat (cat d [32]) e) [10]) () a) λ(i,j,f) =>
 oC f <|
 R f <|
 Y (zG ((ql (c+1)),((),f))))
  (oC a <|
 R a <|
 Y (zF ((),a)))
def sC f2 x3 x4 s:=zJ (sG f2 x3 x4) s
def sH(d:Form)(e:Int):(Int×Unit×z7)->T ((Int×Unit×z7)⊕((Unit×z7)))
 | (c,g,a) =>
 W (zA (c<e))
  (oC a <|
 R a <|
 I (pK d c () a) λ(f,b) =>
 oC b <|
 R b <|
 Y (zG ((ql (c+1)),((),b))))
  (oC a <|
 R a <|
 Y (zF ((),a)))
def sD f3 x6 s:=zJ (sH f3 x6) s
def lM(i:qz)(j:Int):(Int×Unit×z7)->T ((Int×Unit×z7)⊕((Unit×z7)))
 | (d,m,b)=>let a:=nth i d (zb xn);
 W (zA (d<j))
  (oI d i <|
 I (yl) λe=>let c:=cat [114,117,108,101,32] (nth e a.2.1 (zb .str));
 .zl (xb a.2.1 e.length) <|
 oK [114,117,108,101,32] (nth e a.2.1 (zb .str)) <|
 oK c [32] <|
 oK (cat c [32]) a.1 <|
 I (sI a.2.2.1) λf =>
 oK (cat (cat c [32]) a.1) f <|
 I (nY (Expr.mk (Expr.kind a.2.2.2.1) ((Expr.num a.2.2.2.1).1,((Expr.num a.2.2.2.1).2.1,((Expr.num a.2.2.2.1).2.2.1,()))) (Expr.name a.2.2.2.1) (Expr.kids a.2.2.2.1)) [61] (Expr.mk (Expr.kind a.2.2.2.2.1) ((Expr.num a.2.2.2.2.1).1,((Expr.num a.2.2.2.2.1).2.1,((Expr.num a.2.2.2.2.1).2.2.1,()))) (Expr.name a.2.2.2.2.1) (Expr.kids a.2.2.2.2.1))) λh =>
 oK (cat (cat (cat c [32]) a.1) f) h <|
 oC b <|
 R b <|
 I (xr (cat (cat (cat (cat c [32]) a.1) f) h) () b) λ(k,l,g) =>
 oC g <|
 R g <|
 Y (zG ((ql (d+1)),((),g))))
  (oC b <|
 R b <|
 Y (zF ((),b)))
def sE x8 x9 s:=zJ (lM x8 x9) s
def nX(a:Form):T zo :=
 oZ <|
 I (sB a a.1 (a.1.length:Int) (0,((),[]))) λ(g,b) =>
 oC b <|
 R b <|
 I (sC a a.2.1 (a.2.1.length:Int) (0,((),b))) λ(h,c) =>
 oC c <|
 R c <|
 I (sD a (a.2.2.1.length:Int) (0,((),c))) λ(i,d) =>
 oC d <|
 R d <|
 I (sE a.2.2.2.2.1 (a.2.2.2.2.1.length:Int) (0,((),d))) λ(j,e) =>
 oC e <|
 R e <|
 I (pZ () e) λ(f,k) =>
 Y f
def Zw(a:Form):T Bool :=
 I (tK a) λb =>
 W b
  (I (pJ a) λc =>
 W c
  (I (pI a) λd =>
 W d
  (I (nX a) λe =>
 Y (zA ((e.length:Int)<=16384)))
  (Y false))
  (Y false))
  (Y false)
def rA(e:Form)(c:q9)(d:Int):(Int×zt)->T ((Int×zt)⊕zt)
 | (b,a) =>
 W (zA (b<d))
  (oI b c <|
 oA a 16 <|
 oM (a.length+1) (a++([(nth c b (zb qe)).1]:List zo)).length <|
 Y (zG ((ql (b+1)),(a++([(nth c b (zb qe)).1]:List zo)))))
  (oC a <|
 R a <|
 Y (zF a))
def rh f1 x x1 s:=zJ (rA f1 x x1) s
def rB(e:Form)(c:qh)(d:Int):(Int×zt)->T ((Int×zt)⊕zt)
 | (b,a) =>
 W (zA (b<d))
  (oI b c <|
 oA a 16 <|
 oM (a.length+1) (a++([(nth c b (zb qg)).1]:List zo)).length <|
 Y (zG ((ql (b+1)),(a++([(nth c b (zb qg)).1]:List zo)))))
  (oC a <|
 R a <|
 Y (zF a))
def ri f2 x3 x4 s:=zJ (rB f2 x3 x4) s
def rC(e:Form)(c:xc)(d:Int):(Int×zt)->T ((Int×zt)⊕zt)
 | (b,a) =>
 W (zA (b<d))
  (oI b c <|
 oA a 16 <|
 oM (a.length+1) (a++([(nth c b (zb xi)).1]:List zo)).length <|
 Y (zG ((ql (b+1)),(a++([(nth c b (zb xi)).1]:List zo)))))
  (oC a <|
 R a <|
 Y (zF a))
def rj f3 x6 x7 s:=zJ (rC f3 x6 x7) s
def rD(e:Form)(c:qp)(d:Int):(Int×zt)->T ((Int×zt)⊕zt)
 | (b,a) =>
 W (zA (b<d))
  (oI b c <|
 oA a 16 <|
 oM (a.length+1) (a++([(nth c b (zb qw)).1]:List zo)).length <|
 Y (zG ((ql (b+1)),(a++([(nth c b (zb qw)).1]:List zo)))))
  (oC a <|
 R a <|
 Y (zF a))
def rm f4 x9 x10 s:=zJ (rD f4 x9 x10) s
def rE(e:Form)(c:qz)(d:Int):(Int×zt)->T ((Int×zt)⊕zt)
 | (b,a) =>
 W (zA (b<d))
  (oI b c <|
 oA a 16 <|
 oM (a.length+1) (a++([(nth c b (zb xn)).1]:List zo)).length <|
 Y (zG ((ql (b+1)),(a++([(nth c b (zb xn)).1]:List zo)))))
  (oC a <|
 R a <|
 Y (zF a))
def rq f5 x12 x13 s:=zJ (rE f5 x12 x13) s
def rF(c:qs)(d:Int):(Int×zt)->T ((Int×zt)⊕zt)
 | (b,a) =>
 W (zA (b<d))
  (oI b c <|
 oA a 16 <|
 oM (a.length+1) (a++([(nth c b (zb xk)).1]:List zo)).length <|
 Y (zG ((ql (b+1)),(a++([(nth c b (zb xk)).1]:List zo)))))
  (oC a <|
 R a <|
 Y (zF a))
def ry x15 x16 s:=zJ (rF x15 x16) s
def sZ(a:Form):T zt :=
 oZ <|
 I (rh a a.1 (a.1.length:Int) (0,[])) λb =>
 oC b <|
 R b <|
 I (ri a a.2.1 (a.2.1.length:Int) (0,b)) λc =>
 oC c <|
 R c <|
 I (rj a a.2.2.1 (a.2.2.1.length:Int) (0,c)) λd =>
 oC d <|
 R d <|
 I (rm a a.2.2.2.1 (a.2.2.2.1.length:Int) (0,d)) λe =>
 oC e <|
 R e <|
 I (rq a a.2.2.2.2.1 (a.2.2.2.2.1.length:Int) (0,e)) λf =>
 oC f <|
 R f <|
 I (ry a.2.2.2.2.2.1 (a.2.2.2.2.2.1.length:Int) (0,f)) λg =>
 R g <|
 Y (zH 0 (zI (0+g.length) g))
def twR:List zo->List zo->zo×Bool
 | _,[]=>([],false)
 | seen,x::r=>if x∈seen then(x,true)else twR (seen++[x]) r
def ta(l:List zo):T (zo×Bool):=.zl (zO l*16<=140737488351232/\∀ s∈l,zO s<=9223372036854775807)<|Y (twR [] l)
def vZ(a:Switch)(b:zo):T Bool :=
 Y (xw a.1 b)
def jZ(a:zo)(d:Form):T Bool :=
 W (!(xw a []))
  (I (vK d.1 (λb=>vZ b a)) λc =>
 Y (!c))
  (Y false)
def uS(b:zt)(d:zo->T Bool)(e:Int):Int->T (Int⊕(Unit⊕Int))
 | a =>
 W (zA (a<e))
  (oI a b <|
 I (d (nth b a (zb .str))) λc =>
 W c
  (Y (zF (zF a)))
  (Y (zG (ql (a+1)))))
  (Y (zF (zG ())))
def nZ s1 f x s:=zJ (uS s1 f x) s
def wX(a:zt)(c:zo->T Bool):T Int :=
 I (nZ a c (a.length:Int) 0) <|
 zK (λ_ =>
 Y (-1))
  (λb =>
 Y b)
def fB(e:Form)(c:xc)(d:Int):(Int×zt)->T ((Int×zt)⊕zt)
 | (b,a) =>
 W (zA (b<d))
  (oI b c <|
 oA a 16 <|
 oM (a.length+1) (a++([(nth c b (zb xi)).2.1]:List zo)).length <|
 Y (zG ((ql (b+1)),(a++([(nth c b (zb xi)).2.1]:List zo)))))
  (oC a <|
 R a <|
 Y (zF a))
def fy f1 x x1 s:=zJ (fB f1 x x1) s
def fD(e:Form)(c:qz)(d:Int):(Int×zt)->T ((Int×zt)⊕zt)
 | (b,a) =>
 W (zA (b<d))
  (oI b c <|
 oA a 16 <|
 oM (a.length+1) (a++([(nth c b (zb xn)).2.2.1]:List zo)).length <|
 Y (zG ((ql (b+1)),(a++([(nth c b (zb xn)).2.2.1]:List zo)))))
  (oC a <|
 R a <|
 Y (zF a))
def fA f2 x3 x4 s:=zJ (fD f2 x3 x4) s
def ff(b:Form):T (zo×Bool) :=
 oZ <|
 I (fy b b.2.2.1 (b.2.2.1.length:Int) (0,[])) λd =>
 oC d <|
 R d <|
 I (fA b b.2.2.2.2.1 (b.2.2.2.2.1.length:Int) (0,d)) λa =>
 R a <|
 I (wX (zH 0 (zI (0+a.length) a)) (λe=>jZ e b)) λc =>
 W (zA (c<0))
  (Y ([],false))
  (oI c a <|
 .zl (uT a.length a.length (0+(zE c)) a.length) <|
 Y ((wo a (0+(zE c)) (zb .str)),true))
def gJ(b:zt)(c:zo)(d:Int):Int->T (Int⊕(Unit⊕Int))
 | a =>
 W (zA (a<d))
  (oI a b <|
 W (xw c (nth b a (zb .str)))
  (Y (zF (zF a)))
  (Y (zG (ql (a+1)))))
  (Y (zF (zG ())))
def gI s1 v1 x s:=zJ (gJ s1 v1 x) s
def wG(a:zt)(c:zo):T Int :=
 I (gI a c (a.length:Int) 0) <|
 zK (λ_ =>
 Y (-1))
  (λb =>
 Y b)
def wP(b:zt)(c:zo):T Bool :=
 I (wG b c) λa =>
 Y (zA (0<=a))
def fg(e:AM.Expr->zt->T zt)(d:dy)(f:Int):(Int×zt)->T ((Int×zt)⊕zt)
 | (b,a) =>
 W (zA (b<f))
  (oI b d <|
 oC a <|
 R a <|
 I (e (nth d b (zb .expr)) a) λc =>
 oC c <|
 R c <|
 Y (zG ((ql (b+1)),c)))
  (oC a <|
 R a <|
 Y (zF a))
def cM self_expr_names x1 x2 s:=zJ (fg self_expr_names x1 x2) s
def dI(h:AM.Expr->zt->T zt)(c:AM.Expr)(a:zt):T zt :=
 I (I (W ((Expr.kind c)==2)
  (R a <|
 I (wP (zH 0 (zI (0+a.length) a)) (Expr.name c)) λf =>
 oC a <|
 R a <|
 Y ((!f),a))
  (oC a <|
 R a <|
 Y (false,a)):T ((Bool×zt))) λ(g,b) =>
 W g
  (oA b 16 <|
 oM (b.length+1) (b++([(Expr.name c)]:List zo)).length <|
 Y (b++([(Expr.name c)]:List zo)))
  (oC b <|
 R b <|
 Y b):T zt) λd =>
 oC d <|
 R d <|
 I (cM h (Expr.kids c) ((Expr.kids c).length:Int) (0,d)) λe =>
 oC e <|
 R e <|
 Y e
def pn(e:AM.Expr)(l:zt):T zt:=T.fix (λF x=>dI (λy0 y1=>F (y0,y1)) x.1 x.2) (e,l)
def mE(d:dy)(e:Int):(Int×zt)->T ((Int×zt)⊕zt)
 | (b,a) =>
 W (zA (b<e))
  (oI b d <|
 oC a <|
 R a <|
 I (pn (nth d b (zb .expr)) a) λc =>
 oC c <|
 R c <|
 Y (zG ((ql (b+1)),c)))
  (oC a <|
 R a <|
 Y (zF a))
def mD x1 x2 s:=zJ (mE x1 x2) s
def nj(c:AM.Expr)(a:zt):T zt :=
 I (I (W ((Expr.kind c)==2)
  (R a <|
 I (wP (zH 0 (zI (0+a.length) a)) (Expr.name c)) λf =>
 oC a <|
 R a <|
 Y ((!f),a))
  (oC a <|
 R a <|
 Y (false,a)):T ((Bool×zt))) λ(g,b) =>
 W g
  (oA b 16 <|
 oM (b.length+1) (b++([(Expr.name c)]:List zo)).length <|
 Y (b++([(Expr.name c)]:List zo)))
  (oC b <|
 R b <|
 Y b):T zt) λd =>
 oC d <|
 R d <|
 I (mD (Expr.kids c) ((Expr.kids c).length:Int) (0,d)) λe =>
 oC e <|
 R e <|
 Y e
def dH(b:AM.Expr):T zt :=
 oZ <|
 I (nj b []) λa =>
 R a <|
 Y (zH 0 (zI (0+a.length) a))
def jf(l:List zt):T zt:=.zl (zO l*24<=140737488351232/\zO (List.flatten l)*16<=140737488355328/\l≠[])<|Y (List.flatten l)
def uI(a:Param)(b:zo):T Bool :=
 Y (xw a.1 b)
def yQ(a:zo)(e:zt)(f:Form):T Bool :=
 I (wP e a) λb =>
 W (!b)
  (I (vV f.2.1 (λc=>uI c a)) λd =>
 Y (!d))
  (Y false)
def mq(i:Form)(j:zt)(d:qs)(h:Int):(zt×Int)->T ((zt×Int)⊕zt)
 | (c,b)=>let a:=nth d b (zb xk);
 W (zA (b<h))
  (oI b d <|
 I (dH (Expr.mk (Expr.kind a.2.2.2.1) ((Expr.num a.2.2.2.1).1,((Expr.num a.2.2.2.1).2.1,((Expr.num a.2.2.2.1).2.2.1,()))) (Expr.name a.2.2.2.1) (Expr.kids a.2.2.2.1))) λe =>
 I (dH (Expr.mk (Expr.kind a.2.2.2.2.1) ((Expr.num a.2.2.2.2.1).1,((Expr.num a.2.2.2.2.1).2.1,((Expr.num a.2.2.2.2.1).2.2.1,()))) (Expr.name a.2.2.2.2.1) (Expr.kids a.2.2.2.2.1))) λf =>
 I (jf ([c,e,f]:List zt)) λg =>
 Y (zG (g,(ql (b+1)))))
  (Y (zF c))
def mn f1 fields1 x x1 s:=zJ (mq f1 fields1 x x1) s
def mr(i:Form)(j:zt)(d:qz)(h:Int):(zt×Int)->T ((zt×Int)⊕zt)
 | (c,b)=>let a:=nth d b (zb xn);
 W (zA (b<h))
  (oI b d <|
 I (dH (Expr.mk (Expr.kind a.2.2.2.1) ((Expr.num a.2.2.2.1).1,((Expr.num a.2.2.2.1).2.1,((Expr.num a.2.2.2.1).2.2.1,()))) (Expr.name a.2.2.2.1) (Expr.kids a.2.2.2.1))) λe =>
 I (dH (Expr.mk (Expr.kind a.2.2.2.2.1) ((Expr.num a.2.2.2.2.1).1,((Expr.num a.2.2.2.2.1).2.1,((Expr.num a.2.2.2.2.1).2.2.1,()))) (Expr.name a.2.2.2.2.1) (Expr.kids a.2.2.2.2.1))) λf =>
 I (jf ([c,e,f]:List zt)) λg =>
 Y (zG (g,(ql (b+1)))))
  (Y (zF c))
def mo f2 fields2 x3 x4 s:=zJ (mr f2 fields2 x3 x4) s
def mU(a:Form)(d:zt):T (zo×Bool) :=
 I (mn a d a.2.2.2.2.2.1 (a.2.2.2.2.2.1.length:Int) ([],0)) λe =>
 I (mo a d a.2.2.2.2.1 (a.2.2.2.2.1.length:Int) (e,0)) λb =>
 I (wX b (λf=>yQ f d a)) λc =>
 W (zA (c<0))
  (Y ([],false))
  (oI c b <|
 Y ((nth b c (zb .str)),true))
def cz(b:zo)(c:zt):T Bool :=
 I (wP c b) λa =>
 Y a
def kP(b:zt)(c:zo->T Bool):T Bool :=
 I (wX b c) λa =>
 Y (zA (0<=a))
def Z7(d:AM.Expr)(e:zt):T Bool :=
 I (dH d) λa =>
 I (kP a (λb=>cz b e)) λc =>
 Y c
def j6(b:AM.Expr->zt->T Bool)(c:AM.Expr)(d:zt):T Bool :=
 I (b c d) λa =>
 Y (!a)
def yD(f:AM.Expr->zt->T Bool)(b:dy)(d:AM.Expr->T Bool)(e:Int):Int->T (Int⊕(Unit⊕Int))
 | a =>
 W (zA (a<e))
  (oI a b <|
 I (d (nth b a (zb .expr))) λc =>
 W c
  (Y (zF (zF a)))
  (Y (zG (ql (a+1)))))
  (Y (zF (zG ())))
def du self_check_Linear s1 f x s:=zJ (yD self_check_Linear s1 f x) s
def bu(c:AM.Expr->zt->T Bool)(a:dy)(d:AM.Expr->T Bool):T Int :=
 I (du c a d (a.length:Int) 0) <|
 zK (λ_ =>
 Y (-1))
  (λb =>
 Y b)
def ji(b:AM.Expr->zt->T Bool)(c:dy)(d:AM.Expr->T Bool):T Bool :=
 I ((bu b) c d) λa =>
 Y (zA (0<=a))
def dA(e:AM.Expr->zt->T Bool)(a:AM.Expr)(d:zt):T Bool :=
 let c:=Z7 (nth (Expr.kids a) 1 (zb .expr)) d; let b:=((nth (Expr.kids a) 0 (zb .expr)),(nth (Expr.kids a) 1 (zb .expr)));  I (W (((Expr.kids a).length:Int)==2)
  (oI 0 (Expr.kids a) <|
 oI 1 (Expr.kids a) <|
 I (W ((Expr.kind a)==5)
  (I (Z7 (nth (Expr.kids a) 0 (zb .expr)) d) λf =>
 W f
  (I c λg =>
 W g
  (Y (true,b))
  (W ((Expr.kind a)==6)
  (I c λh =>
 Y (h,b))
  (Y (false,b))))
  (W ((Expr.kind a)==6)
  (I c λi =>
 Y (i,b))
  (Y (false,b))))
  (W ((Expr.kind a)==6)
  (I c λj =>
 Y (j,b))
  (Y (false,b))):T ((Bool×AM.Expr×AM.Expr))) λ(k,o,p) =>
 W k
  (Y (zF false))
  (Y (zG ())))
  (Y (zG ())):T (Unit⊕Bool)) <|
 zK (λ_ =>
 I ((ji e) (Expr.kids a) (λl=>(j6 e) l d)) λm =>
 Y (!m))
  (λn =>
 Y n)
def iB(e:AM.Expr)(fields:zt):T Bool:=T.fix (λF x=>dA (λy0 y1=>F (y0,y1)) x.1 x.2) (e,fields)
def ob(e:Form)(c:qp)(d:Int):(Int×zt)->T ((Int×zt)⊕zt)
 | (b,a) =>
 W (zA (b<d))
  (oI b c <|
 oA a 16 <|
 oM (a.length+1) (a++([(nth c b (zb qw)).1]:List zo)).length <|
 Y (zG ((ql (b+1)),(a++([(nth c b (zb qw)).1]:List zo)))))
  (oC a <|
 R a <|
 Y (zF a))
def o9 f1 x x1 s:=zJ (ob f1 x x1) s
def od(e:qz)(j:Int):(Int×zt)->T ((Int×zt)⊕(zt⊕(Int×zo×zt)))
 | (d,a)=>let b:=nth e d (zb xn);
 W (zA (d<j))
  (oI d e <|
 I (R a <|
 I (iB (Expr.mk (Expr.kind b.2.2.2.1) ((Expr.num b.2.2.2.1).1,((Expr.num b.2.2.2.1).2.1,((Expr.num b.2.2.2.1).2.2.1,()))) (Expr.name b.2.2.2.1) (Expr.kids b.2.2.2.1)) (zH 0 (zI (0+a.length) a))) λf =>
 W (!f)
  (oC a <|
 R a <|
 Y (true,(a,b)))
  (R a <|
 I (iB (Expr.mk (Expr.kind b.2.2.2.2.1) ((Expr.num b.2.2.2.2.1).1,((Expr.num b.2.2.2.2.1).2.1,((Expr.num b.2.2.2.2.1).2.2.1,()))) (Expr.name b.2.2.2.2.1) (Expr.kids b.2.2.2.2.1)) (zH 0 (zI (0+a.length) a))) λg =>
 oC a <|
 R a <|
 Y ((!g),(a,b))):T ((Bool×zt×cx))) λ(h,c,i) =>
 W h
  (R c <|
 Y (zF (zF (6,(i.1,c)))))
  (oC c <|
 R c <|
 Y (zG ((ql (d+1)),c))))
  (R a <|
 Y (zF (zG a)))
def oa x3 x4 s:=zJ (od x3 x4) s
def iC(a:Form):T (Int×zo) :=
 I (Zw a) λc =>
 W (!c)
  (Y (2,[]))
  (W ((zA (64<(a.2.2.2.1.length:Int)))||(zA (64<(a.2.2.2.2.1.length:Int))))
  (Y (3,[]))
  (I (sZ a) λd =>
 I (ta d) λ(e,f) =>
 W f
  (Y (5,e))
  (I (ff a) λ(g,h) =>
 W h
  (Y (5,g))
  (oZ <|
 I (o9 a a.2.2.2.1 (a.2.2.2.1.length:Int) (0,[])) λb =>
 R b <|
 I (mU a (zH 0 (zI (0+b.length) b))) λ(i,j) =>
 W j
  (Y (5,i))
  (oC b <|
 R b <|
 I (oa a.2.2.2.2.1 (a.2.2.2.2.1.length:Int) (0,b)) <|
 zK (λm =>
 Y (0,[]))
  (λ(k,l,n) =>
 Y (k,l)))))))
def nV(a:Form):T zo :=
 I (Zw a) λb =>
 W (!b)
  (Y [])
  (I (nX a) λc =>
 Y c)
def strings_Split(a:zo)(b:zo):T zt :=
 .zl (a.length<4294967281/\b.length=1) <|
 Y (eO (List.headD b 0) a)
def strings_Cut(a:zo)(b:zo):T (zo×zo×Bool) :=
 .zl (a.length<4294967281) <|
 Y (Ue a b)
def sJ(a:Int):T Bool :=
 Y (a==32)
def strings_FieldsFunc(a:zo)(b:Int->T Bool):T zt :=
 .zl (a.length<=4294967296) <|
 Y (cj 32 [] a)
def il(c:zo):T zt :=
 I (strings_FieldsFunc c (λa=>sJ a)) λb =>
 Y b
def strings_IndexAny(c:zo)(a:zo):T Int :=
 .zl (c.length<4294967281/\2<=a.length/\a.length<4294967281/\(∀ b∈a,b.toNat<128)) <|
 Y (rS c a)
def kh(b:zo)(a:zo):T Bool :=
 .zl (((zA ((a.length:Int)<=(b.length:Int)))=true)->(jJ 0 (a.length:Int) b.length)) <|
 Y ((zA ((a.length:Int)<=(b.length:Int)))&&(xw (iv 0 (a.length:Int) b) a))
def strings_HasPrefix(b:zo)(c:zo):T Bool :=
 I (kh b c) λa =>
 Y a
def bQ  : zd->T (zd⊕(zd))
 | a =>
 .zl (((zA (a.2.1<(a.1.length:Int)))=true)->(xb a.2.1 a.1.length)) <|
 W ((zA (a.2.1<(a.1.length:Int)))&&((vz a.1 a.2.1)==32))
  (Y (zG (a.1,((ql (a.2.1+1)),(a.2.2.1,(a.2.2.2.1,()))))))
  (Y (zF a))
def bP(s:zd):T (zd):=zJ (bQ ) s
def dJ(b:zd):T zd :=
 I (bP  b) λa =>
 Y a
def strings_IndexByte(s:zo)(c:Int):T Int:=Y (Uy s (byteOf c))
def uJ(e:zo)(f:zd):T (Int×zd) :=
 I (dJ f) λb =>
 I (W (zA (b.2.1<(b.1.length:Int)))
  (oI b.2.1 b.1 <|
 I (strings_IndexByte e (vz b.1 b.2.1)) λc =>
 Y ((zA (0<=c)),b))
  (Y (false,b)):T ((Bool×zd))) λ(d,a) =>
 W d
  (oI (ql ((ql (a.2.1+1))-1)) a.1 <|
 Y ((vz a.1 (ql ((ql (a.2.1+1))-1))),(a.1,((ql (a.2.1+1)),(a.2.2.1,(a.2.2.2.1,()))))))
  (Y (0,a))
def vp(a:Int)(b:Int)(c:zd):T (zd⊕(xh×zd)) :=
 Y (zF ((a,(b,())),c))
def kK(a:zd):T (zd⊕(xh×zd)) :=
 W (zA (32<=(ql (a.2.2.1+1))))
  (I (vp 4 (ql (a.2.1-1)) (a.1,(a.2.1,((ql (a.2.2.1+1)),(a.2.2.2.1,()))))) <|
 zK (λb =>
 Y (zG b))
  (λ(c,d) =>
 Y (zF (c,d))))
  (Y (zG (a.1,(a.2.1,((ql (a.2.2.1+1)),(a.2.2.2.1,()))))))
def yz(e:Int->T Bool)(f:Int)(g:Int):zd->T (zd⊕(zd))
 | a =>
 I (W (zA (a.2.1<(a.1.length:Int)))
  (W (zA ((ql (a.2.1-g))<f))
  (oI a.2.1 a.1 <|
 I (e (vz a.1 a.2.1)) λc =>
 Y (c,a))
  (Y (false,a)))
  (Y (false,a)):T ((Bool×zd))) λ(d,b) =>
 W d
  (Y (zG (b.1,((ql (b.2.1+1)),(b.2.2.1,(b.2.2.2.1,()))))))
  (Y (zF b))
def cD is most1 from_ s:=zJ (yz is most1 from_) s
def uK(c:Int->T Bool)(d:Int)(b:zd):T (zo×zd) :=
 I (cD c d b.2.1 b) λa =>
 .zl (jJ b.2.1 a.2.1 a.1.length) <|
 Y ((iv b.2.1 a.2.1 a.1),a)
def strings_CutPrefix(a:zo)(b:zo):T (zo×Bool) :=
 Y (DV a b,List.isPrefixOf b a)
def bA(c:Int):zo->T (zo⊕zo)
 | a=>let b:=ql ((a.length:Int)-1);
 .zl (((zA (0<(a.length:Int)))=true)->(xb b a.length)) <|
 W ((zA (0<(a.length:Int)))&&((vz a b)==c))
  (.zl (jJ 0 b a.length) <|
 Y (zG (iv 0 b a)))
  (Y (zF a))
def bz c1 s:=zJ (bA c1) s
def strings_trimRightByte(b:zo)(c:Int):T zo :=
 I (bz c b) λa =>
 Y a
def cd(b:Int):zo->T (zo⊕zo)
 | a =>
 .zl (((zA (0<(a.length:Int)))=true)->(xb 0 a.length)) <|
 W ((zA (0<(a.length:Int)))&&((vz a 0)==b))
  (.zl (jJ 1 (a.length:Int) a.length) <|
 Y (zG (iv 1 (a.length:Int) a)))
  (Y (zF a))
def ca c1 s:=zJ (cd c1) s
def strings_trimLeftByte(b:zo)(c:Int):T zo :=
 I (ca c b) λa =>
 Y a
def strings_makeASCIISet(a:zo):T ((den (nu .bool 256))×Bool) :=
 .zl (a.length<4294967281/\(∀ (j:Nat) b,a[j]? = some b->b.toNat<128)) <|
 Y (mh a,true)
def vj(b:(den (nu .bool 256)))(a:Int):T Bool :=
 .zl (xb a 256) <|
 Y (WU .bool (nu .bool 256) b (zE a))
def uG(d:(den (nu .bool 256))):zo->T (zo⊕zo)
 | a=>let b:=ql ((a.length:Int)-1);
 W (zA (0<(a.length:Int)))
  (oI b a <|
 I (vj d (vz a b)) λc =>
 W (!c)
  (Y (zF a))
  (.zl (jJ 0 b a.length) <|
 Y (zG (iv 0 b a))))
  (Y (zF a))
def jR as1 s:=zJ (uG as1) s
def jE(b:zo)(c:(den (nu .bool 256))):T zo :=
 I (jR c b) λa =>
 Y a
def j4(c:(den (nu .bool 256))):zo->T (zo⊕zo)
 | a =>
 W (zA (0<(a.length:Int)))
  (oI 0 a <|
 I (vj c (vz a 0)) λb =>
 W (!b)
  (Y (zF a))
  (.zl (jJ 1 (a.length:Int) a.length) <|
 Y (zG (iv 1 (a.length:Int) a))))
  (Y (zF a))
def kH as1 s:=zJ (j4 as1) s
def jW(b:zo)(c:(den (nu .bool 256))):T zo :=
 I (kH c b) λa =>
 Y a
def cJ(b:zo)(a:zo):T zo :=
 W ((xw b [])||(xw a []))
  (Y b)
  (.zl ((((a.length:Int)==1)=true)->(xb 0 a.length)) <|
 W (((a.length:Int)==1)&&(zA ((vz a 0)<128)))
  (oI 0 a <|
 I (strings_trimRightByte b (vz a 0)) λd =>
 oI 0 a <|
 I (strings_trimLeftByte d (vz a 0)) λe =>
 Y e)
  (I (strings_makeASCIISet a) λ(c,f) =>
 W f
  (I (jE b c) λg =>
 I (jW g c) λh =>
 Y h)
  (.fail)))
def Vu(h:z7)(c:z7)(e:z7)(g:Int):(Int×Int×z7)->T ((Int×Int×z7)⊕((Int×z7)))
 | (d,a,b)=>let f:=bif (zA (a<(c.length:Int)))then(wm ((wm (d+(wm (nth e a (zb (.int .u32))))))+(wm (nth c a (zb (.int .u32))))))else(wm (d+(wm (nth e a (zb (.int .u32))))));
 W (zA (a<g))
  (oI a e <|
 .zl (((zA (a<(c.length:Int)))=true)->(xb a c.length)) <|
 oI a b <|
 .zl (uT b.length b.length (0+(zE a)) b.length) <|
 .zl (0<=(32:Int)) <|
 oM b.length (zL b (0+(zE a)) (ba f)).length <|
 Y (zG ((jx .u64 f 32),((ql (a+1)),(zL b (0+(zE a)) (ba f))))))
  (oC b <|
 R b <|
 Y (zF (d,b)))
def Vt a2 b2 x x1 s:=zJ (Vu a2 b2 x x1) s
def UJ(h:z7)(i:z7):T z7 :=
 I (ue h) λc =>
 I (ue i) λd=>let e:=bif (zA ((c.length:Int)<(d.length:Int)))then d else c; let a:=(e.length:Int);
 .zl (eY (ql (a+1)) (ql (a+1)) 4) <|
 oM (zE (ql (a+1))) (zM (zE (ql (a+1))) (0:Int)).length <|
 I (Vt e (bif (zA ((c.length:Int)<(d.length:Int)))then c else d) e a (0,(0,(zM (zE (ql (a+1))) 0)))) λ(f,b) =>
 oI a b <|
 .zl (uT b.length b.length (0+(zE a)) b.length) <|
 R b <|
 I (ue (zH 0 (zI (0+b.length) (zL b (0+(zE a)) (ba f))))) λg =>
 Y g
def Qe(c:zo)(g:Int):(z7×Int)->T ((z7×Int)⊕z7)
 | (b,a) =>
 W (zA (a<g))
  (I (iZ b ([10]:List Int)) λd =>
 oI a c <|
 I (l8 (wm (wu8 ((vz c a)-48)))) λe =>
 I (UJ d e) λf =>
 Y (zG (f,(ql (a+1)))))
  (Y (zF b))
def Qd s1 x1 s:=zJ (Qe s1 x1) s
def mI(a:zo):T (z7×Bool) :=
 I (W (xw a [])
  (Y true)
  (W (zA (400<(a.length:Int)))
  (Y true)
  (I (cJ a [48,49,50,51,52,53,54,55,56,57]) λb =>
 Y (!(xw b [])))):T Bool) λc =>
 W c
  (Y ([],false))
  (I (Qd a (a.length:Int) ([],0)) λd =>
 Y (d,true))
def pQ(f:zo):T (Rat×Int) :=
 W (zA (400<(f.length:Int)))
  (Y ((false,(([]:List Int),(([]:List Int),()))),3))
  (I (strings_CutPrefix f [45]) λ(c,d) =>
 I (strings_Cut c [46]) λ(b,a,g) =>
 W g
  (I (mI a) λ(t,h) =>
 oK b a <|
 I (mI (cat b a)) λ(i,j) =>
 W ((xw b [])||((!h)||(!j)))
  (Y ((false,(([]:List Int),(([]:List Int),()))),2))
  (I (Uf (a.length:Int)) λk =>
 I (sr d i k) λl =>
 Y (l,0)))
  (I (strings_Cut c [47]) λ(m,n,o) =>
 I (mI m) λ(p,q) =>
 I (mI (bif (!o)then[49]else n)) λ(e,r) =>
 W ((!q)||((!r)||((e.length:Int)==0)))
  (Y ((false,(([]:List Int),(([]:List Int),()))),2))
  (I (sr d p e) λs =>
 Y (s,0))))
def kJ(i:zd):T ((AM.Expr×zd)⊕(xh×zd)) :=
 I (uK (λe=>jt e) (i.1.length:Int) i) λ(c,a) =>
 I (.zl (((zA (a.2.1<(a.1.length:Int)))=true)->(xb a.2.1 a.1.length)) <|
 W ((zA (a.2.1<(a.1.length:Int)))&&((vz a.1 a.2.1)==46))
  (I (uK (λe=>jt e) (a.1.length:Int) (a.1,((ql (a.2.1+1)),(a.2.2.1,(a.2.2.2.1,()))))) λ(b,f) =>
 W (xw b [])
  (I (vp 2 f.2.1 f) <|
 zK (λj =>
 oK [46] b <|
 oK c (cat [46] b) <|
 Y (zG ((cat c (cat [46] b)),(j,(Expr.mk 0 (false,([],([],()))) [] [])))))
  (λ(k,l) =>
 Y (zF (k,(l,(Expr.mk 0 (false,([],([],()))) [] []))))))
  (oK [46] b <|
 oK c (cat [46] b) <|
 Y (zG ((cat c (cat [46] b)),(f,(Expr.mk 0 (false,([],([],()))) [] []))))))
  (Y (zG (c,(a,(Expr.mk 0 (false,([],([],()))) [] []))))):T ((zo×zd×AM.Expr)⊕(xh×zd×AM.Expr))) <|
 zK (λ(h,d,o) =>
 W (zA (400<(h.length:Int)))
  (Y (zG ((Expr.mk 1 (false,([],([],()))) [] []),(d.1,(d.2.1,(d.2.2.1,(true,())))))))
  (I (pQ h) λ(g,p) =>
 Y (zG ((Expr.mk 1 (g.1,(g.2.1,(g.2.2.1,()))) [] []),d))))
  (λ(m,n,q) =>
 Y (zF (m,n)))
def uB(hd:zd->T ((AM.Expr×zd)⊕(xh×zd)))(zD:zd->T ((AM.Expr×zd)⊕(xh×zd)))(h2:zd):T ((AM.Expr×zd)⊕(xh×zd)) :=
 I (uJ [45,40] h2) λ(h,a)=>let j:=(a,(Expr.mk 0 (false,([],([],()))) [] []));
 W (h==45)
  (I (kK a) <|
 zK (λk =>
 I (hd k) <|
 zK (λ(l,c) =>
 Y (zG ((Expr.mk 7 (false,([],([],()))) [] [l]),(c.1,(c.2.1,((ql (c.2.2.1-1)),(c.2.2.2.1,())))))))
  (λ(m,n) =>
 Y (zF (m,n))))
  (λ(o,p) =>
 Y (zF (o,p))))
  (W (h==40)
  (I (kK a) <|
 zK (λq =>
 I (zD q) <|
 zK (λ(r,s)=>let g:=((Expr.mk 0 (false,([],([],()))) [] []),r);
 I (I (uJ [41] s) λ(t,e) =>
 W (t==0)
  (I (vp 2 e.2.1 e) <|
 zK (λu =>
 Y (zG (u,g)))
  (λ(v,w) =>
 Y (zF (v,(w,g)))))
  (Y (zG (e,g))):T ((zd×AM.Expr×AM.Expr)⊕(xh×zd×AM.Expr×AM.Expr))) <|
 zK (λ(d,zB,x) =>
 Y (zG (x,(d.1,(d.2.1,((ql (d.2.2.1-1)),(d.2.2.2.1,())))))))
  (λ(y,z,z6,aa) =>
 Y (zF (y,z))))
  (λ(A,hl) =>
 Y (zF (A,hl))))
  (λ(C,D) =>
 Y (zF (C,D))))
  (I (W (zA (a.2.1<(a.1.length:Int)))
  (oI a.2.1 a.1 <|
 I (jt (vz a.1 a.2.1)) λκ' =>
 Y (κ',j))
  (Y (false,j)):T ((Bool×zd×AM.Expr))) λ(G,b,i) =>
 W G
  (I (kJ b) <|
 zK (λ(H,zC) =>
 Y (zG (H,zC)))
  (λ(hb,K) =>
 Y (zF (hb,K))))
  (I (W (zA (b.2.1<(b.1.length:Int)))
  (oI b.2.1 b.1 <|
 I (yN (vz b.1 b.2.1)) λL =>
 Y (L,(b,i)))
  (Y (false,(b,i))):T ((Bool×zd×AM.Expr))) λ(M,f,ab) =>
 W M
  (I (uK (λN=>yy N) 24 f) λ(κ,P) =>
 Y (zG ((Expr.mk 2 (false,([],([],()))) κ []),P)))
  (I (vp 2 f.2.1 f) <|
 zK (λoE =>
 Y (zG ((Expr.mk 0 (false,([],([],()))) [] []),oE)))
  (λ(S,hx) =>
 Y (zF (S,hx)))))))
def vI(kO:zd->T ((AM.Expr×zd)⊕(xh×zd)))(p:zd):T ((AM.Expr×zd)⊕(xh×zd)):=T.fix (λF x=>uB (λy0=>F (y0)) kO x) p
def vf(l:zd->T ((AM.Expr×zd)⊕(xh×zd)))(f:zo)(m:xh):(zd×AM.Expr×AM.Expr)->T ((zd×AM.Expr×AM.Expr)⊕((zd×AM.Expr×AM.Expr)⊕(xh×zd×AM.Expr×AM.Expr)))
 | (k,e,a) =>
 I (uJ f k) λ(b,c) =>
 W (b==0)
  (Y (zF (zG (c,(a,a)))))
  (I ((vI l) c) <|
 zK (λ(g,h) =>
 I (strings_IndexByte f b) λd =>
 .zl (xb d 2) <|
 Y (zG (h,(e,(Expr.mk (WU (.int .i64) uy m (zE d)) (false,([],([],()))) [] [a,g])))))
  (λ(i,j) =>
 Y (zF (zF (i,(j,(e,a)))))))
def ve kO marks1 kinds1 s:=zJ (vf kO marks1 kinds1) s
def wy(a:zd->T ((AM.Expr×zd)⊕(xh×zd)))(p:Unit)(j:zo)(k:xh)(l:zd):T ((AM.Expr×zd)⊕(xh×zd)) :=
 I ((vI a) l) <|
 zK (λ(b,c) =>
 I (ve a j k (c,((Expr.mk 0 (false,([],([],()))) [] []),b))) <|
 zK (λ(d,e,m) =>
 Y (zG (e,d)))
  (λ(f,g,n,o) =>
 Y (zF (f,g))))
  (λ(h,i) =>
 Y (zF (h,i)))
def vw(e:zd->T ((AM.Expr×zd)⊕(xh×zd)))(f:zd):T ((AM.Expr×zd)⊕(xh×zd)) :=
 I ((wy e) () [42,47] ((5:Int),((6:Int),())) f) <|
 zK (λ(a,b) =>
 Y (zG (a,b)))
  (λ(c,d) =>
 Y (zF (c,d)))
def wZ(l:zd->T ((AM.Expr×zd)⊕(xh×zd)))(f:zo)(m:xh):(zd×AM.Expr×AM.Expr)->T ((zd×AM.Expr×AM.Expr)⊕((zd×AM.Expr×AM.Expr)⊕(xh×zd×AM.Expr×AM.Expr)))
 | (k,e,a) =>
 I (uJ f k) λ(b,c) =>
 W (b==0)
  (Y (zF (zG (c,(a,a)))))
  (I ((vw l) c) <|
 zK (λ(g,h) =>
 I (strings_IndexByte f b) λd =>
 .zl (xb d 2) <|
 Y (zG (h,(e,(Expr.mk (WU (.int .i64) uy m (zE d)) (false,([],([],()))) [] [a,g])))))
  (λ(i,j) =>
 Y (zF (zF (i,(j,(e,a)))))))
def wY kO marks1 kinds1 s:=zJ (wZ kO marks1 kinds1) s
def wu(a:zd->T ((AM.Expr×zd)⊕(xh×zd)))(p:Unit)(j:zo)(k:xh)(l:zd):T ((AM.Expr×zd)⊕(xh×zd)) :=
 I ((vw a) l) <|
 zK (λ(b,c) =>
 I (wY a j k (c,((Expr.mk 0 (false,([],([],()))) [] []),b))) <|
 zK (λ(d,e,m) =>
 Y (zG (e,d)))
  (λ(f,g,n,o) =>
 Y (zF (f,g))))
  (λ(h,i) =>
 Y (zF (h,i)))
def yo(e:zd->T ((AM.Expr×zd)⊕(xh×zd)))(f:zd):T ((AM.Expr×zd)⊕(xh×zd)) :=
 I ((wu e) () [43,45] ((3:Int),((4:Int),())) f) <|
 zK (λ(a,b) =>
 Y (zG (a,b)))
  (λ(c,d) =>
 Y (zF (c,d)))
def dn(p:zd):T ((AM.Expr×zd)⊕(xh×zd)):=T.fix (λF x=>yo (λy0=>F (y0)) x) p
def gX(a:AM.Expr)(b:Int)(c:Int):T (AM.Expr×Int×Int) :=
 W false
  (.fail)
  (Y (a,(b,c)))
def gx(a:xh)(b:AM.Expr)(c:Int)(d:Int):T (AM.Expr×Int×Int) :=
 W true
  (W (!true)
  (.fail)
  (Y ((Expr.mk 0 (false,([],([],()))) [] []),(a.2.1,a.1))))
  (Y (b,(c,d)))
def iV(t:zd):T (AM.Expr×Int×Int×zd) :=
 I (dn t) <|
 zK (λ(b,a) =>
 W (zA (a.2.1<(a.1.length:Int)))
  (I (vp 2 a.2.1 a) <|
 zK (λc =>
 I (gX b 0 0) λ(d,e,f) =>
 Y (d,(e,(f,c))))
  (λ(g,h) =>
 I (gx g b 0 0) λ(i,j,k) =>
 Y (i,(j,(k,h)))))
  (I (gX b 0 0) λ(l,m,n) =>
 Y (l,(m,(n,a)))))
  (λ(o,p) =>
 I (gx o (Expr.mk 0 (false,([],([],()))) [] []) 0 0) λ(q,r,s) =>
 Y (q,(r,(s,p))))
def rO(i:zo):T (AM.Expr×Int×Int) :=
 I (iV (i,((0:Int),((0:Int),(false,()))))) λ(a,e,b,c)=>let d:=((Expr.mk 0 (false,([],([],()))) [] []),(c,a));
 W (b != 0)
  (Y ((Expr.mk 0 (false,([],([],()))) [] []),(e,b)))
  (I (W c.2.2.2.1
  (Y (true,d))
  (I (iT a) λf =>
 Y ((!f),d)):T ((Bool×AM.Expr×zd×AM.Expr))) λ(g,j,k,h) =>
 W g
  (Y ((Expr.mk 0 (false,([],([],()))) [] []),(0,3)))
  (Y (h,(0,0))))
def strings_Contains(a:zo)(b:zo):T Bool :=
 .zl (a.length<4294967281) <|
 Y (zA (0<=WQ a b))
def dV(b:zo)(v:zo):T (AM.Expr×AM.Expr×zo×Int) :=
 I (strings_IndexAny b [60,61]) λa=>let c:=iv (ql (a+1)) (b.length:Int) b;
 W (zA (a<0))
  (Y ((Expr.mk 0 (false,([],([],()))) [] []),((Expr.mk 0 (false,([],([],()))) [] []),([],2))))
  (.zl (jJ 0 a b.length) <|
 .zl (jJ (ql (a+1)) (b.length:Int) b.length) <|
 .zl (jJ a (ql (a+1)) b.length) <|
 I (I (W (xw (iv a (ql (a+1)) b) [60])
  (I (strings_HasPrefix c [61]) λm =>
 Y (m,((Expr.mk 0 (false,([],([],()))) [] []),(Expr.mk 0 (false,([],([],()))) [] []))))
  (Y (false,((Expr.mk 0 (false,([],([],()))) [] []),(Expr.mk 0 (false,([],([],()))) [] [])))):T ((Bool×AM.Expr×AM.Expr))) λ(n,e,f) =>
 W n
  (.zl (jJ 1 (c.length:Int) c.length) <|
 Y ([60,61],((iv 1 (c.length:Int) c),(e,f))))
  (Y ((iv a (ql (a+1)) b),(c,(e,f)))):T ((zo×zo×AM.Expr×AM.Expr))) λ(g,o,w,p) =>
 I (rO (iv 0 a b)) λ(d,x,h) =>
 W (h != 0)
  (Y (d,(p,([],h))))
  (I (I (rO o) λ(i,y,j) =>
 I (W (j==0)
  (I (strings_Contains v g) λq =>
 Y ((!q),(d,i)))
  (Y (false,(d,i))):T ((Bool×AM.Expr×AM.Expr))) λ(r,k,l) =>
 W r
  (Y (2,(k,l)))
  (Y (j,(k,l))):T ((Int×AM.Expr×AM.Expr))) λ(s,t,u) =>
 Y (t,(u,(g,s)))))
def nW(a:zt)(b:Int)(c:Int)(d:zo):T Bool :=
 .zl ((((a.length:Int)==b)=true)->(xb c a.length)) <|
 Y (((a.length:Int)==b)&&(xw (nth a c (zb .str)) d))
def dW(b:zt)(a:Int):T (zo×Bool) :=
 W ((b.length:Int)==a)
  (Y ([],true))
  (I (I (nW b (ql (a+2)) a [119,104,101,110]) λc =>
 W c
  (oI (ql (a+1)) b <|
 I (uV (nth b (ql (a+1)) (zb .str))) λd =>
 Y d)
  (Y false):T Bool) λe =>
 W e
  (oI (ql (a+1)) b <|
 Y ((nth b (ql (a+1)) (zb .str)),true))
  (Y ([],false)))
def jH(i:zt)(x:zo)(z:Unit)(k:q9)(l:qh)(j:xc)(m:qp)(n:qz)(o:qs):T (Int×Unit×q9×qh×xc×qp×qz×qs) :=
 let p:=((),(k,(l,(j,(m,(n,o))))));  I (W ((i.length:Int) != 2)
  (oY k l j m n o <|
 Y (true,p))
  (oI 1 i <|
 I (uV (nth i 1 (zb .str))) λr =>
 W (!r)
  (oY k l j m n o <|
 Y (true,p))
  (oY k l j m n o <|
 Y (((j.length:Int)==0),p))):T ((Bool×Unit×q9×qh×xc×qp×qz×qs))) λ(s,y,e,f,b,g,h,a) =>
 W s
  (oY e f b g h a <|
 Y (2,((),(e,(f,(b,(g,(h,a))))))))
  (oI 1 i <|
 I (dV x [60,61]) λ(c,d,t,u) =>
 I (bY) λv =>
 I (wG v t) λw=>let q:=a++([((nth i 1 (zb .str)),((ql ((b.length:Int)-1)),(w,((Expr.mk (Expr.kind c) ((Expr.num c).1,((Expr.num c).2.1,((Expr.num c).2.2.1,()))) (Expr.name c) (Expr.kids c)),((Expr.mk (Expr.kind d) ((Expr.num d).1,((Expr.num d).2.1,((Expr.num d).2.2.1,()))) (Expr.name d) (Expr.kids d)),())))))]:List Check);
 oA a 240 <|
 oC e <|
 oC f <|
 oC b <|
 oC g <|
 oC h <|
 .zl (zu (a.length+1) 0 (a.length+1) q.length) <|
 R e <|
 R f <|
 R b <|
 R g <|
 R h <|
 .zl ((a.length+1)=q.length) <|
 Y (u,((),(e,(f,(b,(g,(h,q))))))))
def kA(a:zt)(A:zo)(D:Unit)(j:q9)(k:qh)(l:xc)(m:qp)(n:qz)(o:qs):T (Int×Unit×q9×qh×xc×qp×qz×qs) :=
 let p:=((),(j,(k,(l,(m,(n,o))))));  I (W (zA ((a.length:Int)<3))
  (oY j k l m n o <|
 Y (true,p))
  (I (yl) λr =>
 oI 1 a <|
 I (wP r (nth a 1 (zb .str))) λs =>
 W (!s)
  (oY j k l m n o <|
 Y (true,p))
  (oI 2 a <|
 I (uV (nth a 2 (zb .str))) λt =>
 oY j k l m n o <|
 Y ((!t),p))):T ((Bool×Unit×q9×qh×xc×qp×qz×qs))) λ(u,hl,c,d,e,f,b,g) =>
 W u
  (oY c d e f b g <|
 Y (2,((),(c,(d,(e,(f,(b,g))))))))
  (I (dW a 3) λ(v,w) =>
 W (!w)
  (oY c d e f b g <|
 Y (2,((),(c,(d,(e,(f,(b,g))))))))
  (oI 2 a <|
 I (yl) λx =>
 oI 1 a <|
 I (wG x (nth a 1 (zb .str))) λy =>
 I (dV A [61]) λ(h,i,C,z)=>let q:=b++([((nth a 2 (zb .str)),(y,(v,((Expr.mk (Expr.kind h) ((Expr.num h).1,((Expr.num h).2.1,((Expr.num h).2.2.1,()))) (Expr.name h) (Expr.kids h)),((Expr.mk (Expr.kind i) ((Expr.num i).1,((Expr.num i).2.1,((Expr.num i).2.2.1,()))) (Expr.name i) (Expr.kids i)),())))))]:List cx);
 oA b 248 <|
 oC c <|
 oC d <|
 oC e <|
 oC f <|
 .zl (zu (b.length+1) 0 (b.length+1) q.length) <|
 oC g <|
 R c <|
 R d <|
 R e <|
 R f <|
 .zl ((b.length+1)=q.length) <|
 R g <|
 Y (z,((),(c,(d,(e,(f,(q,g)))))))))
def kv(a:zt)(s:Unit)(h:q9)(i:qh)(j:xc)(k:qp)(l:qz)(m:qs):T (Bool×Unit×q9×qh×xc×qp×qz×qs) :=
 let n:=((),(h,(i,(j,(k,(l,m))))));  I (W ((a.length:Int) != 3)
  (oY h i j k l m <|
 Y (true,n))
  (oI 1 a <|
 I (uV (nth a 1 (zb .str))) λp =>
 W (!p)
  (oY h i j k l m <|
 Y (true,n))
  (oI 2 a <|
 W (!(xw (nth a 2 (zb .str)) [111,110]))
  (oI 2 a <|
 oY h i j k l m <|
 Y ((!(xw (nth a 2 (zb .str)) [111,102,102])),n))
  (oY h i j k l m <|
 Y (false,n)))):T ((Bool×Unit×q9×qh×xc×qp×qz×qs))) λ(q,r,b,c,d,e,f,g)=>let o:=b++([((nth a 1 (zb .str)),((xw (nth a 2 (zb .str)) [111,110]),()))]:List Switch);
 W q
  (oY b c d e f g <|
 Y (false,((),(b,(c,(d,(e,(f,g))))))))
  (oI 1 a <|
 oI 2 a <|
 oA b 24 <|
 .zl (zu (b.length+1) 0 (b.length+1) o.length) <|
 oC c <|
 oC d <|
 oC e <|
 oC f <|
 oC g <|
 .zl ((b.length+1)=o.length) <|
 R c <|
 R d <|
 R e <|
 R f <|
 R g <|
 Y (true,((),(o,(c,(d,(e,(f,g))))))))
def yc(b:zt)(t:Unit)(h:q9)(i:qh)(j:xc)(k:qp)(l:qz)(m:qs):T (Bool×Unit×q9×qh×xc×qp×qz×qs) :=
 I (W ((b.length:Int) != 3)
  (oY h i j k l m <|
 Y (true,((),(h,(i,(j,(k,(l,m))))))))
  (oI 1 b <|
 I (uV (nth b 1 (zb .str))) λp =>
 oY h i j k l m <|
 Y ((!p),((),(h,(i,(j,(k,(l,m)))))))):T ((Bool×Unit×q9×qh×xc×qp×qz×qs))) λ(q,s,c,a,d,e,f,g) =>
 W q
  (oY c a d e f g <|
 Y (false,((),(c,(a,(d,(e,(f,g))))))))
  (oI 2 b <|
 I (pQ (nth b 2 (zb .str))) λ(n,r)=>let o:=a++([((nth b 1 (zb .str)),((n.1,(n.2.1,(n.2.2.1,()))),()))]:List Param);
 oI 1 b <|
 oA a 72 <|
 oC c <|
 .zl (zu (a.length+1) 0 (a.length+1) o.length) <|
 oC d <|
 oC e <|
 oC f <|
 oC g <|
 R c <|
 .zl ((a.length+1)=o.length) <|
 R d <|
 R e <|
 R f <|
 R g <|
 Y ((r==0),((),(c,(o,(d,(e,(f,g))))))))
def kz(b:zt)(t:Unit)(h:q9)(i:qh)(j:xc)(k:qp)(l:qz)(m:qs):T (Bool×Unit×q9×qh×xc×qp×qz×qs) :=
 I (W (zA ((b.length:Int)<2))
  (oY h i j k l m <|
 Y (true,((),(h,(i,(j,(k,(l,m))))))))
  (oI 1 b <|
 I (uV (nth b 1 (zb .str))) λo =>
 oY h i j k l m <|
 Y ((!o),((),(h,(i,(j,(k,(l,m)))))))):T ((Bool×Unit×q9×qh×xc×qp×qz×qs))) λ(p,s,c,d,a,e,f,g) =>
 W p
  (oY c d a e f g <|
 Y (false,((),(c,(d,(a,(e,(f,g))))))))
  (I (dW b 2) λ(q,r)=>let n:=a++([((nth b 1 (zb .str)),(q,()))]:List cv);
 oI 1 b <|
 oA a 32 <|
 oC c <|
 oC d <|
 .zl (zu (a.length+1) 0 (a.length+1) n.length) <|
 oC e <|
 oC f <|
 oC g <|
 R c <|
 R d <|
 .zl ((a.length+1)=n.length) <|
 R e <|
 R f <|
 R g <|
 Y (r,((),(c,(d,(n,(e,(f,g))))))))
def yd(a:zt)(aa:Unit)(A:q9)(hl:qh)(s:xc)(C:qp)(D:qz)(κ':qs):T (Bool×Unit×q9×qh×xc×qp×qz×qs) :=
 let N:=((),(A,(hl,(s,(C,(D,κ')))))); let b:=(a.length:Int);  I (W (zA (b<2))
  (oY A hl s C D κ' <|
 Y (true,N))
  (oI 1 a <|
 I (uV (nth a 1 (zb .str))) λκ =>
 W (!κ)
  (oY A hl s C D κ' <|
 Y (true,N))
  (oY A hl s C D κ' <|
 Y (((s.length:Int)==0),N))):T ((Bool×Unit×q9×qh×xc×qp×qz×qs))) λ(P,zD,g,h,c,i,j,k) =>
 W P
  (oY g h c i j k <|
 Y (false,((),(g,(h,(c,(i,(j,k))))))))
  (oI 1 a <|
 .zl (jJ 2 b a.length) <|
 I (.zl (((zA (0<(zN (jS (e:=.str) 2 b a).length:Int)))=true)->(xb 0 (jS (e:=.str) 2 b a).length)) <|
 W ((zA (0<(zN (jS (e:=.str) 2 b a).length:Int)))&&(xw (nth (jS (e:=.str) 2 b a) 0 (zb .str)) [109,117,115,116]))
  (.zl (jJ 1 (zN (jS (e:=.str) 2 b a).length:Int) (jS (e:=.str) 2 b a).length) <|
 oY g h c i j k <|
 Y ((jS (e:=.str) 1 (zN (jS (e:=.str) 2 b a).length:Int) (jS (e:=.str) 2 b a)),((),(g,(h,(c,(i,(j,(k,((nth a 1 (zb .str)),((ql ((c.length:Int)-1)),(true,((0:Int),())))))))))))))
  (oY g h c i j k <|
 Y ((jS (e:=.str) 2 b a),((),(g,(h,(c,(i,(j,(k,((nth a 1 (zb .str)),((ql ((c.length:Int)-1)),(false,((0:Int),()))))))))))))):T ((zt×Unit×q9×qh×xc×qp×qz×qs×Field))) λ(d,h2,m,n,o,p,q,r,oE)=>let l:=nth d 1 (zb .str); let G:=((),(m,(n,(o,(p,(q,(r,oE)))))));
 I (I (I (nW d 2 0 [115,99,97,108,101]) λS =>
 W S
  (oI 1 d <|
 W ((l.length:Int)==1)
  (oI 1 d <|
 W (!(strLt l [48]))
  (oI 1 d <|
 oY m n o p q r <|
 Y (((strLt l [57])||(xw l [57])),G))
  (oY m n o p q r <|
 Y (false,G)))
  (oY m n o p q r <|
 Y (false,G)))
  (oY m n o p q r <|
 Y (false,G)):T ((Bool×Unit×q9×qh×xc×qp×qz×qs×Field))) λ(hx,zB,t,u,v,w,x,y,z) =>
 W hx
  (oI 1 d <|
 oI 0 l <|
 oY t u v w x y <|
 Y ([],((),(t,(u,(v,(w,(x,(y,(z.1,(z.2.1,(z.2.2.1,((ql (wu8 ((vz l 0)-48))),())))))))))))))
  (oY t u v w x y <|
 Y (d,((),(t,(u,(v,(w,(x,(y,z))))))))):T ((zt×Unit×q9×qh×xc×qp×qz×qs×Field))) λ(hd,z6,H,zC,hb,f,K,L,M) =>
 oA f 40 <|
 oC H <|
 oC zC <|
 oC hb <|
 .zl (zu (f.length+1) 0 (f.length+1) (f++[M]).length) <|
 oC K <|
 oC L <|
 R H <|
 R zC <|
 R hb <|
 .zl ((f.length+1)=(f++[M]).length) <|
 R K <|
 R L <|
 Y (((hd.length:Int)==0),((),(H,(zC,(hb,((f++[M]),(K,L))))))))
def j7(ag:zo)(an:Unit)(b:q9)(c:qh)(d:xc)(e:qp)(f:qz)(g:qs):T (Int×Unit×q9×qh×xc×qp×qz×qs) :=
 let j:=((),(b,(c,(d,(e,(f,g))))));  I (strings_Cut ag [58]) λ(z6,K,i) =>
 I (il z6) λa=>let hb:=zA (0<(a.length:Int)); let h:=nth a 0 (zb .str);
 .zl (((((a.length:Int)==0)=true)->(((!i)=false)->((hb=true)->((xb 0 a.length)/\(xb 0 h.length)))))/\((((a.length:Int)==0)=false)->((hb=true)->((xb 0 a.length)/\(xb 0 h.length))))) <|
 W (bif ((a.length:Int)==0)then((!i)||(hb&&((vz h 0)==35)))else(hb&&((vz h 0)==35)))
  (oY b c d e f g <|
 Y (0,j))
  (W ((a.length:Int)==0)
  (W (!false)
  (oY b c d e f g <|
 Y (2,j))
  (oY b c d e f g <|
 Y (0,j)))
  (.zl ((i=true)->(xb 0 a.length)) <|
 W (i&&(xw h [99,104,101,99,107]))
  (oY b c d e f g <|
 I (jH a K () b c d e f g) λ(aa,ah,L,M,N,κ,P,oE) =>
 oY L M N κ P oE <|
 Y (aa,((),(L,(M,(N,(κ,(P,oE))))))))
  (.zl ((i=true)->(xb 0 a.length)) <|
 W (i&&(xw h [114,117,108,101]))
  (oY b c d e f g <|
 I (kA a K () b c d e f g) λ(ab,ai,S,hx,hd,zD,h2,zB) =>
 oY S hx hd zD h2 zB <|
 Y (ab,((),(S,(hx,(hd,(zD,(h2,zB))))))))
  (W i
  (W (!false)
  (oY b c d e f g <|
 Y (2,j))
  (oY b c d e f g <|
 Y (0,j)))
  (oI 0 a <|
 W (xw h [115,119,105,116,99,104])
  (oY b c d e f g <|
 I (kv a () b c d e f g) λ(ac,aj,k,l,m,n,o,p) =>
 W (!ac)
  (oY k l m n o p <|
 Y (2,((),(k,(l,(m,(n,(o,p))))))))
  (oY k l m n o p <|
 Y (0,((),(k,(l,(m,(n,(o,p)))))))))
  (oI 0 a <|
 W (xw h [112,97,114,97,109])
  (oY b c d e f g <|
 I (yc a () b c d e f g) λ(ad,ak,q,r,s,t,u,v) =>
 W (!ad)
  (oY q r s t u v <|
 Y (2,((),(q,(r,(s,(t,(u,v))))))))
  (oY q r s t u v <|
 Y (0,((),(q,(r,(s,(t,(u,v)))))))))
  (oI 0 a <|
 W (xw h [112,97,103,101])
  (oY b c d e f g <|
 I (kz a () b c d e f g) λ(ae,al,w,x,y,z,A,hl) =>
 W (!ae)
  (oY w x y z A hl <|
 Y (2,((),(w,(x,(y,(z,(A,hl))))))))
  (oY w x y z A hl <|
 Y (0,((),(w,(x,(y,(z,(A,hl)))))))))
  (oI 0 a <|
 W (xw h [102,105,101,108,100])
  (oY b c d e f g <|
 I (yd a () b c d e f g) λ(af,am,C,D,κ',G,H,zC) =>
 W (!af)
  (oY C D κ' G H zC <|
 Y (2,((),(C,(D,(κ',(G,(H,zC))))))))
  (oY C D κ' G H zC <|
 Y (0,((),(C,(D,(κ',(G,(H,zC)))))))))
  (W (!false)
  (oY b c d e f g <|
 Y (2,j))
  (oY b c d e f g <|
 Y (0,j)))))))))))
def bX(u:zt)(w:Int):(Int×Unit×Unit×qs×qs×qz×qz×q9×q9×qh×qh×xc×xc×qp×qp)->T ((Int×Unit×Unit×qs×qs×qz×qz×q9×q9×qh×qh×xc×xc×qp×qp)⊕((Unit×Unit×qs×qs×qz×qz×q9×q9×qh×qh×xc×xc×qp×qp)⊕(Int×Int×Form×Unit×qs×qs×qz×qz×q9×q9×qh×qh×xc×xc×qp×qp)))
 | (m,y,z,a,n,b,o,c,p,d,q,e,r,f,s) =>
 W (zA (m<w))
  (oI m u <|
 oY p q r s o n <|
 I (j7 (nth u m (zb .str)) () p q r s o n) λ(t,x,g,h,i,j,k,l)=>let v:=((),(a,(l,(b,(k,(c,(g,(d,(h,(e,(i,(f,j))))))))))));
 W (t != 0)
  (oV g h i j k l <|
 oW a l b k c g <|
 oW d h e i f j <|
 Y (zF (zF ((ql (m+1)),(t,((([]:List Switch),(([]:List Param),(([]:List cv),(([]:List Field),(([]:List cx),(([]:List Check),())))))),v))))))
  (oV c d e f b a <|
 oV g h i j k l <|
 oW a l b k c g <|
 oW d h e i f j <|
 Y (zG ((ql (m+1)),((),v)))))
  (oV c d e f b a <|
 oV p q r s o n <|
 oW a n b o c p <|
 oW d q e r f s <|
 Y (zF (zG ((),((),(a,(n,(b,(o,(c,(p,(d,(q,(e,(r,(f,s))))))))))))))))
def bW x x1 s:=zJ (bX x x1) s
def ik(h:zo):T (Form×Int×Int) :=
 W (zA (16384<(h.length:Int)))
  (Y ((([]:List Switch),(([]:List Param),(([]:List cv),(([]:List Field),(([]:List cx),(([]:List Check),())))))),(0,3)))
  (I (strings_Split h [10]) λg =>
 .zl (zu 0 0 0 0) <|
 .zl (zu 0 0 0 0) <|
 .zl (zu 0 0 0 0) <|
 .zl (zu 0 0 0 0) <|
 .zl (zu 0 0 0 0) <|
 .zl (zu 0 0 0 0) <|
 .zl (zu 0 0 0 0) <|
 .zl (zu 0 0 0 0) <|
 .zl (zu 0 0 0 0) <|
 .zl (zu 0 0 0 0) <|
 .zl (zu 0 0 0 0) <|
 oZ <|
 .zl (0=0) <|
 .zl (0=0) <|
 .zl (0=0) <|
 .zl (0=0) <|
 .zl (0=0) <|
 .zl (0=0) <|
 .zl (0=0) <|
 .zl (0=0) <|
 .zl (0=0) <|
 .zl (0=0) <|
 .zl (0=0) <|
 I (bW g (g.length:Int) (0,((),((),([],([],([],([],([],([],([],([],([],([],([],[]))))))))))))))) <|
 zK (λ(n,o,p,a,q,b,r,c,s,d,t,e,u,f)=>let i:=((zH 0 (zI (0+c.length) c)),((zH 0 (zI (0+d.length) d)),((zH 0 (zI (0+e.length) e)),((zH 0 (zI (0+f.length) f)),((zH 0 (zI (0+b.length) b)),((zH 0 (zI (0+a.length) a)),()))))));
 oW c d e f b a <|
 I (Zw i) λj =>
 W (!j)
  (Y ((([]:List Switch),(([]:List Param),(([]:List cv),(([]:List Field),(([]:List cx),(([]:List Check),())))))),(0,2)))
  (oW c d e f b a <|
 Y (i,(0,0))))
  (λ(k,l,m,v,w,x,y,z,A,hl,C,D,κ',G,H,zC) =>
 Y (m,(k,l))))
def mB(c:Form):T Form :=
 I (nV c) λa =>
 I (ik a) λ(b,d,e) =>
 Y b
def gz(a:Int):T Rat :=
 I (l8 (bif (zA (a<0))then(wm (0-(wm a)))else(wm a))) λb =>
 I (l8 1) λc =>
 Y ((zA (a<0)),(b,(c,())))
def Xh(a:Form)(b:we):T Bool :=
 Y (((b.2.2.1.length:Int)==(a.2.2.2.1.length:Int))&&(((b.2.2.2.1.length:Int)==(a.2.2.2.2.1.length:Int))&&(((b.2.2.2.2.1.length:Int)==(a.2.2.2.1.length:Int))&&((b.2.2.2.2.2.1.length:Int)==(a.2.2.2.1.length:Int)))))
def cC(a:Rat):T Bool :=
 I (tW a) λb =>
 W (!b)
  (Y true)
  (I (cS a) λc =>
 Y c)
def gv(b:zr)(d:Rat->T Bool)(e:Int):Int->T (Int⊕(Unit⊕Int))
 | a =>
 W (zA (a<e))
  (oI a b <|
 I (d (nth b a (zb zm))) λc =>
 W c
  (Y (zF (zF a)))
  (Y (zG (ql (a+1)))))
  (Y (zF (zG ())))
def sM s1 f x s:=zJ (gv s1 f x) s
def ye(a:zr)(c:Rat->T Bool):T Int :=
 I (sM a c (a.length:Int) 0) <|
 zK (λ_ =>
 Y (-1))
  (λb =>
 Y b)
def vB(b:zr)(c:Rat->T Bool):T Bool :=
 I (ye b c) λa =>
 Y (zA (0<=a))
def rN(c:qp)(d:Int):(Int×zt)->T ((Int×zt)⊕zt)
 | (b,a) =>
 W (zA (b<d))
  (oI b c <|
 oA a 16 <|
 oM (a.length+1) (a++([(nth c b (zb qw)).1]:List zo)).length <|
 Y (zG ((ql (b+1)),(a++([(nth c b (zb qw)).1]:List zo)))))
  (oC a <|
 R a <|
 Y (zF a))
def rM x x1 s:=zJ (rN x x1) s
def th(b:Form):T zt :=
 oZ <|
 I (rM b.2.2.2.1 (b.2.2.2.1.length:Int) (0,[])) λa =>
 R a <|
 Y (zH 0 (zI (0+a.length) a))
def bJ(a:zr):T zr :=
 let b:=0+a.length;  .zl (a=[]->∀ r,T.leads (.zl (ub 0 0 0 0 0 a.length 56) <|
 .zl (b=b) <|
 Y (zH 0 (zI (0+b) a)):T _) r->T.leads (Y []:T _) r) <|
 .zl (ub 0 0 0 0 0 a.length 56) <|
 .zl (b=b) <|
 Y (zH 0 (zI (0+b) a))
def Xk(h:qh)(i:Int):(Int×(zr×Unit)×(zt×zr×Unit)×zt×zt×zt)->T ((Int×(zr×Unit)×(zt×zr×Unit)×zt×zt×zt)⊕(((zr×Unit)×(zt×zr×Unit)×zt×zt×zt)))
 | (d,g,e,b,c,a)=>let f:=a++([(nth h d (zb qg)).1]:List zo);
 W (zA (d<i))
  (oI d h <|
 oA a 16 <|
 oC b <|
 oC c <|
 .zl (zu (a.length+1) 0 (a.length+1) f.length) <|
 R b <|
 R c <|
 .zl ((a.length+1)=f.length) <|
 Y (zG ((ql (d+1)),((g.1,()),((e.1,(e.2.1,())),(b,(c,f)))))))
  (oC b <|
 oC c <|
 oC a <|
 R b <|
 R c <|
 R a <|
 Y (zF ((g.1,()),((e.1,(e.2.1,())),(b,(c,a))))))
def Xj x x1 s:=zJ (Xk x x1) s
def rL(b:Form)(f:zr):T wq :=
 I (th b) λd =>
 I (bJ f) λe =>
 .zl (zu 0 0 0 0) <|
 .zl (zu 0 0 0 0) <|
 oZ <|
 .zl (0=0) <|
 .zl (0=0) <|
 I (Xj b.2.1 (b.2.1.length:Int) (0,(([],()),((d,(e,())),([],([],[])))))) λ(g,c,h,i,a) =>
 R a <|
 Y (c.1,((zH 0 (zI (0+a.length) a)),(c.2.1,())))
def eo(a:Switch)(b:zo):T Bool :=
 Y (xw a.1 b)
def Wd(e:Form)(c:zn)(b:zo):T Bool :=
 I (xm e.1 (λd=>eo d b)) λa =>
 .zl (((xw b [])=false)->(((zA (0<=a))=true)->(xb a c.length))) <|
 Y ((xw b [])||((zA (0<=a))&&(nth c a (zb .bool))))
def mg(b:zr)(a:Int):T Rat :=
 W ((zA (a<0))||(zA ((b.length:Int)<=a)))
  (I (gz 0) λc =>
 Y c)
  (oI a b <|
 I (vJ (nth b a (zb zm))) λd =>
 Y d)
def W6(g:zo)(d:wq):T (vO×Int) :=
 I (wG d.1 g) λe =>
 W (zA (0<=e))
  (I (gz 1) λa =>
 I (gz 0) λb =>
 Y (((0:Int),(([(e,((a.1,(a.2.1,(a.2.2.1,()))),()))]:List Term),((b.1,(b.2.1,(b.2.2.1,()))),()))),0))
  (I (wG d.2.1 g) λf =>
 W (zA (f<0))
  (Y (((0:Int),(([]:List Term),((false,(([]:List Int),(([]:List Int),()))),()))),5))
  (I (mg d.2.2.1 f) λc =>
 Y (((0:Int),(([]:List Term),((c.1,(c.2.1,(c.2.2.1,()))),()))),0)))
def pG(f:Rat)(g:Rat):T Rat :=
 I (vJ f) λa =>
 I (vJ g) λb =>
 I (iZ a.2.1 b.2.1) λc =>
 I (iZ a.2.2.1 b.2.2.1) λd =>
 I (sr (!(a.1==b.1)) c d) λe =>
 Y e
def lA(b:Rat):T Bool :=
 I (vJ b) λa =>
 Y ((a.2.1.length:Int)==0)
def ZG(k:Rat)(f:wE)(l:Int):(Int×(Int×Bool×z7×z7×Unit)×(Int×Bool×z7×z7×Unit)×wE×wE)->T ((Int×(Int×Bool×z7×z7×Unit)×(Int×Bool×z7×z7×Unit)×wE×wE)⊕(((Int×Bool×z7×z7×Unit)×(Int×Bool×z7×z7×Unit)×wE×wE)))
 | (b,c,d,e,a)=>let i:=((c.1,(c.2.1,(c.2.2.1,(c.2.2.2.1,())))),((d.1,(d.2.1,(d.2.2.1,(d.2.2.2.1,())))),(e,a)));
 W (zA (b<l))
  (oI b f <|
 I (pG ((nth f b (zb qk)).2.1.1,((nth f b (zb qk)).2.1.2.1,((nth f b (zb qk)).2.1.2.2.1,()))) k) λg=>let h:=a++([((nth f b (zb qk)).1,((g.1,(g.2.1,(g.2.2.1,()))),()))]:List Term);
 I (lA g) λj =>
 W (!j)
  (oA a 64 <|
 oC e <|
 .zl (zu (a.length+1) 0 (a.length+1) h.length) <|
 R e <|
 .zl ((a.length+1)=h.length) <|
 Y (zG ((ql (b+1)),((c.1,(c.2.1,(c.2.2.1,(c.2.2.2.1,())))),((d.1,(d.2.1,(d.2.2.1,(d.2.2.2.1,())))),(e,h))))))
  (oC e <|
 oC a <|
 R e <|
 R a <|
 Y (zG ((ql (b+1)),i))))
  (oC e <|
 oC a <|
 R e <|
 R a <|
 Y (zF i))
def ZF by_1 x x1 s:=zJ (ZG by_1 x x1) s
def eb(b:vO)(e:Rat):T vO :=
 I (pG b.2.2.1 e) λc =>
 .zl (zu 0 0 0 0) <|
 oZ <|
 .zl (0=0) <|
 I (ZF e b.2.1 (b.2.1.length:Int) (0,((0,(false,([],([],())))),((b.1,(c.1,(c.2.1,(c.2.2.1,())))),([],[]))))) λ(f,a,g,d) =>
 R d <|
 Y (a.1,((zH 0 (zI (0+d.length) d)),((a.2.1,(a.2.2.1,(a.2.2.2.1,()))),())))
def VB(c:z7)(e:z7)(h:Int):(Int×Int×z7)->T ((Int×Int×z7)⊕z7)
 | (g,a,b) =>
 W (zA (a<h))
  (oI a e <|
 .zl (((zA (a<(c.length:Int)))=true)->(xb a c.length)) <|
 I (yj (nth e a (zb (.int .u32))) (bif (zA (a<(c.length:Int)))then(nth c a (zb (.int .u32)))else 0) g) λ(d,f) =>
 oI a b <|
 .zl (uT b.length b.length (0+(zE a)) b.length) <|
 oM b.length (zL b (0+(zE a)) d).length <|
 Y (zG (f,((ql (a+1)),(zL b (0+(zE a)) d)))))
  (oC b <|
 R b <|
 Y (zF b))
def VA b2 x x1 s:=zJ (VB b2 x x1) s
def UM(c:z7)(d:z7):T (z7×Bool) :=
 I (tw c d) λe =>
 W (zA (e<0))
  (Y ([],false))
  (I (ue c) λa =>
 I (ue d) λf =>
 .zl (eY (a.length:Int) (a.length:Int) 4) <|
 oM (zE (a.length:Int)) (zM (zE (a.length:Int)) (0:Int)).length <|
 I (VA f a (a.length:Int) (0,(0,(zM (zE (a.length:Int)) 0)))) λb =>
 R b <|
 I (ue (zH 0 (zI (0+b.length) b))) λg =>
 Y (g,true))
def pF(m:Rat)(n:Rat):T Rat :=
 I (vJ m) λa =>
 I (vJ n) λb =>
 I (iZ a.2.1 b.2.2.1) λc =>
 I (iZ b.2.1 a.2.2.1) λd =>
 I (iZ a.2.2.1 b.2.2.1) λe =>
 W (a.1==b.1)
  (I (UJ c d) λf =>
 I (sr a.1 f e) λg =>
 Y g)
  (I (UM c d) λ(h,i) =>
 W i
  (I (sr a.1 h e) λj =>
 Y j)
  (I (UM d c) λ(k,o) =>
 I (sr b.1 k e) λl =>
 Y l))
def Vb  : (wE×wE×(Int×Bool×z7×z7×Unit)×(Int×Bool×z7×z7×Unit)×wE×wE)->T ((wE×wE×(Int×Bool×z7×z7×Unit)×(Int×Bool×z7×z7×Unit)×wE×wE)⊕(((Int×Bool×z7×z7×Unit)×(Int×Bool×z7×z7×Unit)×wE×wE)))
 | (b,a,n,o,c,d)=>let g:=(b.length:Int); let m:=nth a 0 (zb qk); let l:=nth b 0 (zb qk); let p:=(n.1,(n.2.1,(n.2.2.1,(n.2.2.2.1,())))); let q:=(o.1,(o.2.1,(o.2.2.1,(o.2.2.2.1,()))));
 W (zA (0<(ql (g+(a.length:Int)))))
  (I (.zl ((((a.length:Int)==0)=false)->(((zA (0<g))=true)->((xb 0 b.length)/\(xb 0 a.length)))) <|
 W (((a.length:Int)==0)||((zA (0<g))&&(zA (l.1<m.1))))
  (oI 0 b <|
 oI 0 b <|
 I (vJ l.2.1) λr =>
 .zl (jJ 1 g b.length) <|
 oC c <|
 oC d <|
 R c <|
 R d <|
 Y ((jS (e:=qk) 1 g b),(a,(p,(q,(c,(d,(l.1,((r.1,(r.2.1,(r.2.2.1,()))),())))))))))
  (.zl (((g==0)=false)->((xb 0 a.length)/\(xb 0 b.length))) <|
 W ((g==0)||(zA (m.1<l.1)))
  (oI 0 a <|
 oI 0 a <|
 I (vJ m.2.1) λs =>
 .zl (jJ 1 (a.length:Int) a.length) <|
 oC c <|
 oC d <|
 R c <|
 R d <|
 Y (b,((jS (e:=qk) 1 (a.length:Int) a),(p,(q,(c,(d,(m.1,((s.1,(s.2.1,(s.2.2.1,()))),())))))))))
  (oI 0 b <|
 oI 0 b <|
 oI 0 a <|
 I (pF l.2.1 m.2.1) λt =>
 .zl (jJ 1 g b.length) <|
 .zl (jJ 1 (a.length:Int) a.length) <|
 oC c <|
 oC d <|
 R c <|
 R d <|
 Y ((jS (e:=qk) 1 g b),((jS (e:=qk) 1 (a.length:Int) a),(p,(q,(c,(d,(l.1,((t.1,(t.2.1,(t.2.2.1,()))),())))))))))):T ((wE×wE×(Int×Bool×z7×z7×Unit)×(Int×Bool×z7×z7×Unit)×wE×wE×Term))) λ(u,v,h,i,j,f,k) =>
 I (lA (k.2.1.1,(k.2.1.2.1,(k.2.1.2.2.1,())))) λw =>
 W (!w)
  (oA f 64 <|
 oC j <|
 .zl (zu (f.length+1) 0 (f.length+1) (f++[k]).length) <|
 R j <|
 .zl ((f.length+1)=(f++[k]).length) <|
 Y (zG (u,(v,((h.1,(h.2.1,(h.2.2.1,(h.2.2.2.1,())))),((i.1,(i.2.1,(i.2.2.1,(i.2.2.2.1,())))),(j,(f++[k]))))))))
  (oC j <|
 oC f <|
 R j <|
 R f <|
 Y (zG (u,(v,((h.1,(h.2.1,(h.2.2.1,(h.2.2.2.1,())))),((i.1,(i.2.1,(i.2.2.1,(i.2.2.2.1,())))),(j,f))))))))
  (oC c <|
 oC d <|
 R c <|
 R d <|
 Y (zF (p,(q,(c,d)))))
def Va(s:(wE×wE×(Int×Bool×z7×z7×Unit)×(Int×Bool×z7×z7×Unit)×wE×wE)):T (((Int×Bool×z7×z7×Unit)×(Int×Bool×z7×z7×Unit)×wE×wE)):=zJ (Vb ) s
def W4(d:vO)(e:vO):T vO :=
 I (pF d.2.2.1 e.2.2.1) λb =>
 .zl (zu 0 0 0 0) <|
 oZ <|
 .zl (0=0) <|
 I (Va  (d.2.1,(e.2.1,((0,(false,([],([],())))),((d.1,(b.1,(b.2.1,(b.2.2.1,())))),([],[])))))) λ(f,a,g,c) =>
 R c <|
 Y (a.1,((zH 0 (zI (0+c.length) c)),((a.2.1,(a.2.2.1,(a.2.2.2.1,()))),())))
def tD(d:Rat)(e:Rat):T (Rat×Bool) :=
 I (vJ e) λa =>
 W ((a.2.1.length:Int)==0)
  (I (gz 0) λb =>
 Y (b,false))
  (I (pG d (a.1,(a.2.2.1,(a.2.1,())))) λc =>
 Y (c,true))
def ZH(c:Int)(a:vO)(b:vO):T (vO×Int) :=
 W (c==3)
  (I (W4 a b) λd =>
 Y (d,0))
  (W (c==4)
  (I (gz (-1)) λe =>
 I (eb b e) λf =>
 I (W4 a f) λg =>
 Y (g,0))
  (W (c==5)
  (W ((zA (0<(a.2.1.length:Int)))&&(zA (0<(b.2.1.length:Int))))
  (Y (((0:Int),(([]:List Term),((false,(([]:List Int),(([]:List Int),()))),()))),6))
  (W (zA (0<(a.2.1.length:Int)))
  (I (eb a b.2.2.1) λh =>
 Y (h,0))
  (I (eb b a.2.2.1) λi =>
 Y (i,0))))
  (I (gz 1) λj =>
 I (tD j b.2.2.1) λ(k,l) =>
 W (zA (0<(b.2.1.length:Int)))
  (Y (((0:Int),(([]:List Term),((false,(([]:List Int),(([]:List Int),()))),()))),6))
  (W (!l)
  (Y (((0:Int),(([]:List Term),((false,(([]:List Int),(([]:List Int),()))),()))),7))
  (I (eb a k) λm =>
 Y (m,0))))))
def ed(g:AM.Expr->wq->T (vO×Int))(a:AM.Expr)(c:wq):T (vO×Int) :=
 W ((Expr.kind a)==1)
  (I (vJ (Expr.num a)) λb =>
 Y (((0:Int),(([]:List Term),((b.1,(b.2.1,(b.2.2.1,()))),()))),0))
  (W ((Expr.kind a)==2)
  (I (W6 (Expr.name a) c) λ(h,i) =>
 Y (h,i))
  (oI 0 (Expr.kids a) <|
 I (g (nth (Expr.kids a) 0 (zb .expr)) c) λ(d,e) =>
 W (e != 0)
  (Y (((0:Int),(([]:List Term),((false,(([]:List Int),(([]:List Int),()))),()))),e))
  (W ((Expr.kind a)==7)
  (I (gz (-1)) λj =>
 I (eb d j) λk =>
 Y (k,0))
  (oI 1 (Expr.kids a) <|
 I (g (nth (Expr.kids a) 1 (zb .expr)) c) λ(l,f) =>
 W (f != 0)
  (Y (((0:Int),(([]:List Term),((false,(([]:List Int),(([]:List Int),()))),()))),f))
  (I (ZH (Expr.kind a) d l) λ(m,n) =>
 Y (m,n))))))
def KZ(e:AM.Expr)(v:wq):T (vO×Int):=T.fix (λF x=>ed (λy0 y1=>F (y0,y1)) x.1 x.2) (e,v)
def Yu(a:AM.Expr)(e:wq):T (vO×Int) :=
 I (iT a) λb =>
 W (!b)
  (Y (((0:Int),(([]:List Term),((false,(([]:List Int),(([]:List Int),()))),()))),5))
  (I (KZ a e) λ(c,d) =>
 Y (c,d))
def ZX(b:cx)(g:wq):T (vO×Int) :=
 I (Yu b.2.2.2.1 g) λ(c,d) =>
 W (d != 0)
  (Y (c,d))
  (I (Yu b.2.2.2.2.1 g) λ(e,f) =>
 W (f != 0)
  (Y (e,f))
  (I (gz (-1)) λh =>
 I (eb e h) λi =>
 I (W4 c i) λa =>
 Y ((b.2.1,(a.2.1,((a.2.2.1.1,(a.2.2.1.2.1,(a.2.2.1.2.2.1,()))),()))),0)))
def bp(b:Term):T Bool :=
 I (cS b.2.1) λa =>
 Y a
def yF(b:wE)(d:Term->T Bool)(e:Int):Int->T (Int⊕(Unit⊕Int))
 | a =>
 W (zA (a<e))
  (oI a b <|
 I (d (nth b a (zb qk))) λc =>
 W c
  (Y (zF (zF a)))
  (Y (zG (ql (a+1)))))
  (Y (zF (zG ())))
def pN s1 f x s:=zJ (yF s1 f x) s
def kF(a:wE)(c:Term->T Bool):T Int :=
 I (pN a c (a.length:Int) 0) <|
 zK (λ_ =>
 Y (-1))
  (λb =>
 Y b)
def uf(b:wE)(c:Term->T Bool):T Bool :=
 I (kF b c) λa =>
 Y (zA (0<=a))
def ZW(a:vO):T Bool :=
 I (cS a.2.2.1) λb =>
 W b
  (Y true)
  (I (uf a.2.1 (λc=>bp c)) λd =>
 Y d)
def iP(i:zn)(j:Form)(e:qz)(k:Int):(Int×Unit×Unit×wq×zw×z7)->T ((Int×Unit×Unit×wq×zw×z7)⊕((Unit×Unit×wq×zw×z7)⊕(zo×Int×Unit×Unit×wq×zw×z7)))
 | (c,l,m,d,a,b) =>
 W (zA (c<k))
  (oI c e <|
 I (Wd j i (nth e c (zb xn)).2.2.1) λh =>
 W (!h)
  (oC a <|
 oC b <|
 R a <|
 R b <|
 Y (zG ((ql (c+1)),((),((),(d,(a,b)))))))
  (I (ZX (nth e c (zb xn)) d) λ(f,g) =>
 W (g != 0)
  (oC a <|
 oC b <|
 R a <|
 R b <|
 Y (zF (zF ((nth e c (zb xn)).1,(g,((),((),(d,(a,b)))))))))
  (oA a 88 <|
 oA b 8 <|
 .zl (zu (a.length+1) 0 (a.length+1) (a++[f]).length) <|
 .zl (zu (b.length+1) 0 (b.length+1) (b++[c]).length) <|
 .zl ((a.length+1)=(a++[f]).length) <|
 .zl ((b.length+1)=(b++[c]).length) <|
 Y (zG ((ql (c+1)),((),((),(d,((a++[f]),(b++[c]))))))))))
  (oC a <|
 oC b <|
 R a <|
 R b <|
 Y (zF (zG ((),((),(d,(a,b)))))))
def rJ on1 f1 x1 x2 s:=zJ (iP on1 f1 x1 x2) s
def iQ(f:Form)(h:Int):(Int×Unit×Unit×wq×zw×z7)->T ((Int×Unit×Unit×wq×zw×z7)⊕((Unit×Unit×wq×zw×z7)⊕(zo×Int×Unit×Unit×wq×zw×z7)))
 | (c,i,j,e,a,b)=>let d:=0+(zE c);
 W (zA (c<h))
  (oI c a <|
 .zl (uT a.length a.length d a.length) <|
 I (ZW (wo a d (zb zp))) λg =>
 W g
  (oI c b <|
 .zl (uT b.length b.length d b.length) <|
 oI (wo b d (zb (.int .i64))) f.2.2.2.2.1 <|
 oC a <|
 oC b <|
 R a <|
 R b <|
 Y (zF (zF ((nth f.2.2.2.2.1 (wo b d (zb (.int .i64))) (zb xn)).1,(8,((),((),(e,(a,b)))))))))
  (oC a <|
 oC a <|
 oC b <|
 R a <|
 R b <|
 Y (zG ((ql (c+1)),((),((),(e,(a,b))))))))
  (oC a <|
 oC b <|
 R a <|
 R b <|
 Y (zF (zG ((),((),(e,(a,b)))))))
def rK f2 x6 s:=zJ (iQ f2 x6) s
def nC(a:Form)(f:zr)(h:zn):T (Unit×zo×Int×zw×z7) :=
 I (iC a) λ(g,i) =>
 W (g != 0)
  (.zl (zu 0 0 0 0) <|
 oZ <|
 .zl (0=0) <|
 Y ((),(i,(g,([],[])))))
  (I (W ((f.length:Int) != (a.2.1.length:Int))
  (Y (true,()))
  (W ((h.length:Int) != (a.1.length:Int))
  (Y (true,()))
  (I (vB f (λj=>cC j)) λk =>
 Y (k,()))):T ((Bool×Unit))) λ(l,s) =>
 W l
  (.zl (zu 0 0 0 0) <|
 oZ <|
 .zl (0=0) <|
 Y ((),([],(1,([],[])))))
  (I (rL a f) λm =>
 .zl (zu 0 0 0 0) <|
 oZ <|
 .zl (0=0) <|
 I (rJ h a a.2.2.2.2.1 (a.2.2.2.2.1.length:Int) (0,((),((),(m,([],[])))))) <|
 zK (λ(t,u,n,b,c) =>
 oC b <|
 oC b <|
 oC c <|
 R b <|
 R c <|
 I (rK a (b.length:Int) (0,((),((),(n,(b,c)))))) <|
 zK (λ(v,w,x,d,e) =>
 oC d <|
 oC e <|
 R d <|
 R e <|
 Y ((),([],(0,(d,e)))))
  (λ(o,p,y,z,A,hl,C) =>
 .zl (zu 0 0 0 0) <|
 oZ <|
 .zl (0=0) <|
 Y ((),(o,(p,([],[]))))))
  (λ(q,r,D,κ',G,H,zC) =>
 .zl (zu 0 0 0 0) <|
 oZ <|
 .zl (0=0) <|
 Y ((),(q,(r,([],[])))))))
def VK(c:Bool)(a:Rat):T Rat :=
 I (W c
  (Y (((zA (0<(a.2.1.length:Int))),(a.2.1,(a.2.2.1,()))),(false,(([]:List Int),(([]:List Int),())))))
  (Y ((false,(a.2.1,(a.2.2.1,()))),(false,(([]:List Int),(([]:List Int),()))))):T ((Rat×Rat))) λ(b,d) =>
 Y b
def Qn(c:Rat):T Rat :=
 I (vJ c) λa =>
 I (VK (!a.1) a) λb =>
 Y b
def CQ(c:Int)(d:Rat):T vO :=
 I (gz 1) λa =>
 I (Qn d) λb =>
 Y ((1:Int),(([(c,((a.1,(a.2.1,(a.2.2.1,()))),()))]:List Term),((b.1,(b.2.1,(b.2.2.1,()))),())))
def y7(h:Int)(i:Rat)(f:Int)(a:(q9×qh×xc×qp×qz×qs×Unit))(b:zw)(c:z7)(d:z7):T ((q9×qh×xc×qp×qz×qs×Unit)×zw×z7×z7) :=
 let g:=d++([(ql ((a.2.2.2.2.1.length:Int)+h))]:List Int);  I (CQ h i) λe =>
 oA b 88 <|
 oA c 8 <|
 oA d 8 <|
 .zl (zu (b.length+1) 0 (b.length+1) (b++[e]).length) <|
 .zl (zu (c.length+1) 0 (c.length+1) (c++[f]).length) <|
 .zl (zu (d.length+1) 0 (d.length+1) g.length) <|
 .zl ((b.length+1)=(b++[e]).length) <|
 .zl ((c.length+1)=(c++[f]).length) <|
 .zl ((d.length+1)=g.length) <|
 Y ((a.1,(a.2.1,(a.2.2.1,(a.2.2.2.1,(a.2.2.2.2.1,(a.2.2.2.2.2.1,())))))),((b++[e]),((c++[f]),g)))
def rG(g:we)(i:Int):(Int×zw×z7×Unit×(q9×qh×xc×qp×qz×qs×Unit)×z7)->T ((Int×zw×z7×Unit×(q9×qh×xc×qp×qz×qs×Unit)×z7)⊕((zw×z7×Unit×(q9×qh×xc×qp×qz×qs×Unit)×z7)))
 | (c,d,a,j,e,b)=>let h:=(e.1,(e.2.1,(e.2.2.1,(e.2.2.2.1,(e.2.2.2.2.1,(e.2.2.2.2.2.1,())))))); let f:=b++([(nth g.2.2.2.1 (wo a (0+(zE c)) (zb (.int .i64))) (zb (.int .i64)))]:List Int);
 W (zA (c<i))
  (oI c a <|
 .zl (uT a.length a.length (0+(zE c)) a.length) <|
 oI (wo a (0+(zE c)) (zb (.int .i64))) g.2.2.2.1 <|
 oA b 8 <|
 oC a <|
 R d <|
 R a <|
 oC d <|
 .zl (zu (b.length+1) 0 (b.length+1) f.length) <|
 oC a <|
 .zl ((b.length+1)=f.length) <|
 Y (zG ((ql (c+1)),(d,(a,((),(h,f)))))))
  (R d <|
 R a <|
 oC d <|
 oC b <|
 oC a <|
 R b <|
 Y (zF (d,(a,((),(h,b))))))
def Xf d1 x s:=zJ (rG d1 x) s
def rH(l:qc)(m:Int):(Int×zw×z7×Unit×(q9×qh×xc×qp×qz×qs×Unit)×z7)->T ((Int×zw×z7×Unit×(q9×qh×xc×qp×qz×qs×Unit)×z7)⊕((zw×z7×Unit×(q9×qh×xc×qp×qz×qs×Unit)×z7)))
 | (d,a,b,n,f,c)=>let g:=nth l d (zb zx); let k:=(f.1,(f.2.1,(f.2.2.1,(f.2.2.2.1,(f.2.2.2.2.1,(f.2.2.2.2.2.1,()))))));
 W (zA (d<m))
  (oI d l <|
 W (!g.1)
  (R a <|
 R b <|
 oC a <|
 oC c <|
 oC b <|
 R c <|
 Y (zG ((ql (d+1)),(a,(b,((),(k,c)))))))
  (oC a <|
 oC c <|
 oC b <|
 R a <|
 R c <|
 R b <|
 I (y7 d (g.2.2.1.1,(g.2.2.1.2.1,(g.2.2.1.2.2.1,()))) (bif g.2.1 then d else(-1)) k a c b) λ(e,h,i,j) =>
 R h <|
 R j <|
 oC h <|
 oC i <|
 oC j <|
 R i <|
 Y (zG ((ql (d+1)),(h,(j,((),((e.1,(e.2.1,(e.2.2.1,(e.2.2.2.1,(e.2.2.2.2.1,(e.2.2.2.2.2.1,())))))),i))))))))
  (R a <|
 R b <|
 oC a <|
 oC c <|
 oC b <|
 R c <|
 Y (zF (a,(b,((),(k,c))))))
def Xg x2 x3 s:=zJ (rH x2 x3) s
def dC(a:Form)(d:we):T ((Int×(q9×qh×xc×qp×qz×qs×Unit)×zw×z7×z7)⊕(zt×Int)) :=
 I (Xh a d) λo =>
 W (!o)
  (Y (zF ([],1)))
  (I (nC a d.1 d.2.1) λ(p,n,f,g,e) =>
 W ((f != 0)&&(!(xw n [])))
  (Y (zF ([n],f)))
  (W (f != 0)
  (Y (zF ([],f)))
  (oC e <|
 R g <|
 R e <|
 oC g <|
 .zl (zu 0 0 0 0) <|
 oC e <|
 .zl (0=0) <|
 I (Xf d (e.length:Int) (0,(g,(e,((),((a.1,(a.2.1,(a.2.2.1,(a.2.2.2.1,(a.2.2.2.2.1,(a.2.2.2.2.2.1,())))))),[])))))) λ(h,i,q,b,j) =>
 R h <|
 R i <|
 oC h <|
 oC j <|
 oC i <|
 R j <|
 I (Xg d.2.2.2.2.1 (d.2.2.2.2.1.length:Int) (0,(h,(i,((),((b.1,(b.2.1,(b.2.2.1,(b.2.2.2.1,(b.2.2.2.2.1,(b.2.2.2.2.2.1,())))))),j)))))) λ(k,l,r,c,m) =>
 oC k <|
 oC m <|
 oC l <|
 R k <|
 R m <|
 R l <|
 Y (zG (0,((c.1,(c.2.1,(c.2.2.1,(c.2.2.2.1,(c.2.2.2.2.1,(c.2.2.2.2.2.1,())))))),(k,(m,l))))))))
def pO(h:Int)(c:wE)(i:Int):(Int×Int)->T ((Int×Int)⊕(Unit⊕Bool))
 | (g,b)=>let a:=nth c b (zb qk);
 W (zA (b<i))
  (oI b c <|
 I (W (zA (a.1<g))
  (Y (true,a))
  (W (zA (h<=a.1))
  (Y (true,a))
  (I (tW (a.2.1.1,(a.2.1.2.1,(a.2.1.2.2.1,())))) λd =>
 W (!d)
  (Y (true,a))
  (Y (((a.2.1.2.1.length:Int)==0),a)))):T ((Bool×Term))) λ(e,f) =>
 W e
  (Y (zF (zF false)))
  (Y (zG ((ql (f.1+1)),(ql (b+1))))))
  (Y (zF (zG ())))
def Z3 n1 x1 x2 s:=zJ (pO n1 x1 x2) s
def dz(a:vO)(e:Int):T Bool :=
 I (W (zA (a.1<(0:Int)))
  (Y true)
  (W (zA ((4:Int)<a.1))
  (Y true)
  (I (tW a.2.2.1) λb =>
 Y (!b))):T Bool) λc =>
 W c
  (Y false)
  (I (Z3 e a.2.1 (a.2.1.length:Int) (0,0)) <|
 zK (λ_ =>
 Y true)
  (λd =>
 Y d))
def gw(b:vO)(c:Int):T Bool :=
 I (dz b c) λa =>
 Y (!a)
def dX(b:zw)(d:vO->T Bool)(e:Int):Int->T (Int⊕(Unit⊕Int))
 | a =>
 W (zA (a<e))
  (oI a b <|
 I (d (nth b a (zb zp))) λc =>
 W c
  (Y (zF (zF a)))
  (Y (zG (ql (a+1)))))
  (Y (zF (zG ())))
def sK s1 f x s:=zJ (dX s1 f x) s
def bZ(a:zw)(c:vO->T Bool):T Int :=
 I (sK a c (a.length:Int) 0) <|
 zK (λ_ =>
 Y (-1))
  (λb =>
 Y b)
def gu(b:zw)(c:vO->T Bool):T Bool :=
 I (bZ b c) λa =>
 Y (zA (0<=a))
def cX  : ((Nat×Nat)×Int×z7)->T (((Nat×Nat)×Int×z7)⊕((Int×z7)))
 | (b,c,a)=>let d:=b.1+(zE c); let e:=wo a d (zb (.int .i64)); let f:=zL a d (wo a (b.1+(zE e)) (zb (.int .i64)));
 .zl (xb c b.2) <|
 .zl (uT a.length a.length d a.length) <|
 W (e != c)
  (.zl (xb c b.2) <|
 .zl (uT a.length a.length d a.length) <|
 .zl (xb e b.2) <|
 .zl (uT a.length a.length (b.1+(zE e)) a.length) <|
 .zl (xb c b.2) <|
 .zl (uT a.length a.length d a.length) <|
 .zl (xb c b.2) <|
 .zl (uT a.length a.length d f.length) <|
 R a <|
 .zl (a.length=f.length) <|
 Y (zG (b,((wo f d (zb (.int .i64))),f))))
  (R a <|
 Y (zF (c,a)))
def lW(s:((Nat×Nat)×Int×z7)):T ((Int×z7)):=zJ (cX ) s
def gi(d:(Nat×Nat))(e:Int)(a:z7):T (Int×z7) :=
 R a <|
 R a <|
 I (lW  (d,(e,a))) λ(c,b) =>
 R b <|
 Y (c,b)
def bH(c:(Nat×Nat))(g:Int)(h:Int)(e:z7):T (Bool×z7) :=
 R e <|
 R e <|
 I (gi c g e) λ(a,f) =>
 .zl (e.length=f.length) <|
 R f <|
 I (gi c h f) λ(b,d) =>
 .zl (xb (lU a b) c.2) <|
 .zl (uT e.length d.length (c.1+(zE (lU a b))) d.length) <|
 .zl (d.length=(zL d (c.1+(zE (lU a b))) (Vs a b)).length) <|
 Y ((a != b),(zL d (c.1+(zE (lU a b))) (Vs a b)))
def oo(d:zw)(e:Int)(c:Int):(Int×z7)->T ((Int×z7)⊕z7)
 | (b,a) =>
 W (zA (b<c))
  (oI b a <|
 .zl (uT a.length a.length (0+(zE b)) a.length) <|
 oM a.length (zL a (0+(zE b)) b).length <|
 Y (zG ((ql (b+1)),(zL a (0+(zE b)) b))))
  (oC a <|
 R a <|
 Y (zF a))
def oj l1 n1 x s:=zJ (oo l1 n1 x) s
def fh(k:Int)(j:Int)(l:zw)(m:Int)(n:Int):(Int×Int×z7×vO)->T ((Int×Int×z7×vO)⊕((Int×z7×vO)))
 | (f,e,a,b) =>
 W (zA (e<(b.2.1.length:Int)))
  (I (oI 0 b.2.1 <|
 oI e b.2.1 <|
 R a <|
 R a <|
 I (bH (0,a.length) (nth b.2.1 0 (zb qk)).1 (nth b.2.1 e (zb qk)).1 a) λ(h,c) =>
 W (!h)
  (.zl (zu a.length 0 a.length c.length) <|
 R c <|
 Y ((zA (f<0)),(c,b)))
  (.zl (zu a.length 0 a.length c.length) <|
 R c <|
 Y (false,(c,b))):T ((Bool×z7×vO))) λ(i,d,g) =>
 W i
  (oC d <|
 R d <|
 Y (zG (j,((ql (e+1)),(d,g)))))
  (oC d <|
 R d <|
 Y (zG (f,((ql (e+1)),(d,g))))))
  (oC a <|
 R a <|
 Y (zF (f,(a,b))))
def om n3 i x5 x6 x7 s:=zJ (fh n3 i x5 x6 x7) s
def oq(f:Int)(c:zw)(g:Int):(Int×Int×z7)->T ((Int×Int×z7)⊕((Int×z7)))
 | (e,b,a) =>
 W (zA (b<g))
  (oI b c <|
 I (dz (nth c b (zb zp)) f) λh =>
 W (!h)
  (oC a <|
 R a <|
 Y (zG (e,((ql (b+1)),a))))
  (oC a <|
 R a <|
 I (om f b c g b (e,(1,(a,(nth c b (zb zp)))))) λ(i,d,j) =>
 oC d <|
 R d <|
 Y (zG (i,((ql (b+1)),d)))))
  (oC a <|
 R a <|
 Y (zF (e,a)))
def QK n2 x2 x3 s:=zJ (oq n2 x2 x3) s
def Q5(d:zw)(f:Int):T (z7×Int) :=
 let a:=Vs (lU f 0) 64;  .zl (eY a a 8) <|
 oM (zE a) (zM (zE a) (0:Int)).length <|
 I (oj d a (zN (zE a):Int) (0,(zM (zE a) 0))) λb =>
 oC b <|
 R b <|
 I (QK a d (d.length:Int) ((-1),(0,b))) λ(e,c) =>
 R c <|
 Y ((zH 0 (zI (0+c.length) c)),e)
def nH(b:zw)(c:Int):T Int :=
 I (Q5 b c) λ(d,a) =>
 Y a
def ua(a:z7):T z7 :=
 .zl (a=[]->∀ r,T.leads (.zl (ub 0 0 0 0 0 a.length 8) <|
 .zl (zu (0+a.length) 0 (0+a.length) a.length) <|
 .zl ((0+a.length)=a.length) <|
 Y a:T _) r->T.leads (.zl (zu 0 0 0 0) <|
 .zl (0=0) <|
 Y []:T _) r) <|
 .zl (ub 0 0 0 0 0 a.length 8) <|
 oM (0+a.length) a.length <|
 Y a
def ox(a:Int)(b:Int):T (Int×Int) :=
 let c:=wm ((wm ((jx .u64 a 32)*(Hu .u64 b 4294967295)))+(jx .u64 (wm ((Hu .u64 a 4294967295)*(Hu .u64 b 4294967295))) 32));  .zl (0<=(32:Int)) <|
 .zl (0<=(32:Int)) <|
 .zl (0<=(32:Int)) <|
 .zl (0<=(32:Int)) <|
 .zl (0<=(32:Int)) <|
 Y ((wm ((wm ((wm ((jx .u64 a 32)*(jx .u64 b 32)))+(jx .u64 c 32)))+(jx .u64 (wm ((Hu .u64 c 4294967295)+(wm ((Hu .u64 a 4294967295)*(jx .u64 b 32))))) 32))),(wm (a*b)))
def nk(c:Int)(d:Int):T (Int×Int) :=
 I (ox c d) λ(a,b) =>
 Y (a,b)
def gK  : (Int×z7)->T ((Int×z7)⊕z7)
 | (b,a)=>let c:=(zE (a.length:Int))-(zE b); let d:=zH (0+(zE 0)) (zI ((0+(zE 0))+((zE b)-(zE 0))) a);
 W (zA (b<(a.length:Int)))
  (.zl (jJ b (a.length:Int) a.length) <|
 .zl (jJ 0 b a.length) <|
 R a <|
 .zl (Xb a.length a.length (0+(zE b)) c a.length) <|
 oM a.length (yL (0+(zE b)) c a d).length <|
 Y (zG ((ql (b+(zN (Dl c d.length):Int))),(yL (0+(zE b)) c a d))))
  (oC a <|
 R a <|
 Y (zF a))
def eL(s:(Int×z7)):T z7:=zJ (gK ) s
def yJ(c:z7)(e:Int):T z7 :=
 W (zA (e<0))
  (.fail)
  (I (nk (wm (c.length:Int)) (wm e)) λ(f,b)=>let a:=zE (ql b);
 W ((zA (0<f))||(zA (9223372036854775807<b)))
  (.fail)
  (.zl (eY (ql b) (ql b) 8) <|
 .zl (Xb a a 0 a (zM a (0:Int)).length) <|
 oM a (yL 0 a (zM a 0) c).length <|
 I (eL  ((zN (Dl a c.length):Int),(yL 0 a (zM a 0) c))) λd =>
 oC d <|
 R d <|
 Y d))
def cA(a:Term)(b:Int):T Bool :=
 Y (a.1==b)
def W9(c:vO)(d:Int):T Bool :=
 I (uf c.2.1 (λa=>cA a d)) λb =>
 Y b
def pw(b:zw)(c:Int):T Bool :=
 I (nH b c) λa =>
 Y (zA (a<0))
def iE(r:zw)(k:z7)(o:Int)(h:zw)(p:Int):(Int×z7×z7×(zw×Unit))->T ((Int×z7×z7×(zw×Unit))⊕((z7×z7×(zw×Unit))⊕(Bool×z7×z7×(zw×Unit))))
 | (d,b,a,g)=>let i:=nth k d (zb (.int .i64)); let f:=0+(zE i);
 W (zA (d<p))
  (oI d h <|
 I (dz (nth h d (zb zp)) o) λl =>
 W (!l)
  (R b <|
 R a <|
 oC b <|
 oC a <|
 Y (zF (zF (false,(b,(a,(g.1,())))))))
  (oI d k <|
 W (i==(-1))
  (R b <|
 R a <|
 oC b <|
 oC a <|
 Y (zG ((ql (d+1)),(b,(a,(g.1,()))))))
  (I (I (W9 (nth h d (zb zp)) i) λm =>
 W (!m)
  (R b <|
 R a <|
 oC b <|
 oC a <|
 Y (true,(b,(a,((g.1,()),(nth h d (zb zp)))))))
  (oI i a <|
 .zl (uT a.length a.length f a.length) <|
 R b <|
 R a <|
 oC b <|
 oC a <|
 Y (((wo a f (zb (.int .i64))) != (-1)),(b,(a,((g.1,()),(nth h d (zb zp))))))):T ((Bool×z7×z7×(zw×Unit)×vO))) λ(n,e,c,j,q) =>
 W n
  (R e <|
 R c <|
 oC e <|
 oC c <|
 Y (zF (zF (false,(e,(c,(j.1,())))))))
  (oI i c <|
 .zl (uT c.length c.length f c.length) <|
 R e <|
 .zl (c.length=(zL c f d).length) <|
 oC e <|
 .zl (zu c.length 0 c.length (zL c f d).length) <|
 Y (zG ((ql (d+1)),(e,((zL c f d),(j.1,())))))))))
  (R b <|
 R a <|
 oC b <|
 oC a <|
 Y (zF (zG (b,(a,(g.1,()))))))
def td l1 outs1 n1 x x1 s:=zJ (iE l1 outs1 n1 x x1) s
def bM(a:zw)(g:z7)(b:Int):T ((Bool×(zw×Unit)×z7×z7)⊕Bool) :=
 W ((zA (b<1))||((zA (64<b))||((zA (256<(a.length:Int)))||((g.length:Int) != (a.length:Int)))))
  (Y (zF false))
  (I (ua g) λc =>
 I (yJ ([(-1)]:List Int) b) λd =>
 R c <|
 R d <|
 oC c <|
 oC d <|
 I (td a g b a (a.length:Int) (0,(c,(d,(a,()))))) <|
 zK (λ(e,f,h) =>
 I (pw a b) λi =>
 oC e <|
 oC f <|
 R e <|
 R f <|
 Y (zG (i,((h.1,()),(e,f)))))
  (λ(j,k,l,m) =>
 Y (zF j)))
def yp(a:z7):T z7 :=
 let b:=0+a.length;  .zl (a=[]->∀ r,T.leads (.zl (ub 0 0 0 0 0 a.length 8) <|
 .zl (b=b) <|
 Y (zH 0 (zI (0+b) a)):T _) r->T.leads (Y []:T _) r) <|
 .zl (ub 0 0 0 0 0 a.length 8) <|
 .zl (b=b) <|
 Y (zH 0 (zI (0+b) a))
def cmp_isNaN_int(a:Int):T Bool :=
 Y (a != a)
def cmp_Compare_int(a:Int)(b:Int):T Int :=
 I (cmp_isNaN_int a) λd =>
 I (cmp_isNaN_int b) λc =>
 W d
  (W c
  (Y 0)
  (Y (-1)))
  (W c
  (Y 1)
  (W (zA (a<b))
  (Y (-1))
  (W (zA (b<a))
  (Y 1)
  (Y 0))))
def wA(b:Int)(c:Int)(a:zw):T Int :=
 oI b a <|
 oI c a <|
 I (cmp_Compare_int (nth a b (zb zp)).1 (nth a c (zb zp)).1) λd =>
 Y d
def uP(l:Int)(n:Int)(m:Int->Int->T Int)(o:Int):((Nat×Nat)×Int×z7)->T (((Nat×Nat)×Int×z7)⊕(((Nat×Nat)×z7)))
 | (d,e,b)=>let f:=ql (e-1);
 I (W (zA (l<e))
  (.zl (xb e d.2) <|
 .zl (uT b.length b.length (d.1+(zE e)) b.length) <|
 .zl (xb f d.2) <|
 .zl (uT b.length b.length (d.1+(zE f)) b.length) <|
 I (m (wo b (d.1+(zE e)) (zb (.int .i64))) (wo b (d.1+(zE f)) (zb (.int .i64)))) λj =>
 R b <|
 R b <|
 Y (d,((zA (j<0)),b)))
  (R b <|
 R b <|
 Y (d,(false,b))):T (((Nat×Nat)×Bool×z7))) λ(c,k,a)=>let g:=c.1+(zE e); let h:=c.1+(zE f); let i:=zL a g (wo a h (zb (.int .i64)));
 W k
  (.zl (xb f c.2) <|
 .zl (uT a.length a.length h a.length) <|
 .zl (xb e c.2) <|
 .zl (uT a.length a.length g a.length) <|
 .zl (xb e c.2) <|
 .zl (uT a.length a.length g a.length) <|
 .zl (xb f c.2) <|
 .zl (uT a.length a.length h i.length) <|
 R a <|
 .zl (a.length=(zL i h (wo a g (zb (.int .i64)))).length) <|
 Y (zG (c,(f,(zL i h (wo a g (zb (.int .i64))))))))
  (R a <|
 R a <|
 Y (zF (c,a)))
def uN a2 b2 cmp i1 s:=zJ (uP a2 b2 cmp i1) s
def uO(g:Int)(d:Int)(h:Int->Int->T Int):((Nat×Nat)×Int×z7)->T (((Nat×Nat)×Int×z7)⊕z7)
 | (f,b,a) =>
 W (zA (b<d))
  (R a <|
 R a <|
 I (uN g d h b (f,(b,a))) λ(e,c) =>
 R c <|
 R c <|
 Y (zG (e,((ql (b+1)),c))))
  (R a <|
 Y (zF a))
def yr a1 b1 cmp s:=zJ (uO a1 b1 cmp) s
def vd(d:(Nat×Nat))(c:Int)(e:Int)(f:Int->Int->T Int)(a:z7):T z7 :=
 R a <|
 R a <|
 I (yr c e f (d,((ql (c+1)),a))) λb =>
 R b <|
 Y b
def jD(f:Int)(g:Int)(i:Int):((Nat×Nat)×Int×z7)->T (((Nat×Nat)×Int×z7)⊕z7)
 | (c,b,a)=>let d:=c.1+(zE (ql (g+b))); let e:=c.1+(zE (ql (f+b))); let h:=zL a e (wo a d (zb (.int .i64)));
 W (zA (b<i))
  (.zl (xb (ql (g+b)) c.2) <|
 .zl (uT a.length a.length d a.length) <|
 .zl (xb (ql (f+b)) c.2) <|
 .zl (uT a.length a.length e a.length) <|
 .zl (xb (ql (f+b)) c.2) <|
 .zl (uT a.length a.length e a.length) <|
 .zl (xb (ql (g+b)) c.2) <|
 .zl (uT a.length a.length d h.length) <|
 R a <|
 .zl (a.length=(zL h d (wo a e (zb (.int .i64)))).length) <|
 Y (zG (c,((ql (b+1)),(zL h d (wo a e (zb (.int .i64))))))))
  (R a <|
 Y (zF a))
def b8 a1 b1 n1 s:=zJ (jD a1 b1 n1) s
def va(c:(Nat×Nat))(d:Int)(e:Int)(f:Int)(g:Int->Int->T Int)(a:z7):T z7 :=
 R a <|
 R a <|
 I (b8 d e f (c,(0,a))) λb =>
 R b <|
 Y b
def kS(e:Int)(h:Int->Int->T Int):((Nat×Nat)×Int×Int×z7)->T (((Nat×Nat)×Int×Int×z7)⊕(((Nat×Nat)×Int×z7)))
 | (d,b,c,a) =>
 W (b != c)
  (W (zA (c<b))
  (R a <|
 R a <|
 I (va d (ql (e-b)) e c h a) λf =>
 .zl (a.length=f.length) <|
 R f <|
 Y (zG (d,((ql (b-c)),(c,f)))))
  (R a <|
 R a <|
 I (va d (ql (e-b)) (ql ((ql (e+c))-b)) b h a) λg =>
 .zl (a.length=g.length) <|
 R g <|
 Y (zG (d,(b,((ql (c-b)),g))))))
  (R a <|
 R a <|
 Y (zF (d,(b,a))))
def kR m1 cmp s:=zJ (kS m1 cmp) s
def jB(h:(Nat×Nat))(i:Int)(a:Int)(j:Int)(f:Int->Int->T Int)(c:z7):T z7 :=
 R c <|
 R c <|
 I (kR a f (h,((ql (a-i)),((ql (j-a)),c)))) λ(g,d,b) =>
 R b <|
 R b <|
 I (va g (ql (a-d)) a d f b) λe =>
 R e <|
 Y e
def uq(i:(Nat×Nat)->Int->Int->Int->zw->z7->T z7)(f:Int)(h:zw):((Nat×Nat)×Int×Int×z7)->T (((Nat×Nat)×Int×Int×z7)⊕(((Nat×Nat)×Int×z7)))
 | (b,d,e,a)=>let c:=ql (jx .u64 (wm (ql (d+e))) 1);
 W (zA (d<e))
  (.zl (0<=(1:Int)) <|
 .zl (xb c b.2) <|
 .zl (uT a.length a.length (b.1+(zE c)) a.length) <|
 .zl (xb f b.2) <|
 .zl (uT a.length a.length (b.1+(zE f)) a.length) <|
 I (wA (wo a (b.1+(zE c)) (zb (.int .i64))) (wo a (b.1+(zE f)) (zb (.int .i64))) h) λg =>
 W (zA (g<0))
  (R a <|
 R a <|
 Y (zG (b,((ql (c+1)),(e,a)))))
  (R a <|
 R a <|
 Y (zG (b,(d,(c,a))))))
  (R a <|
 R a <|
 Y (zF (b,(d,a))))
def ui self_slices_symMergeCmpFunc_int a1 cmp1 s:=zJ (uq self_slices_symMergeCmpFunc_int a1 cmp1) s
def ur(h:(Nat×Nat)->Int->Int->Int->zw->z7->T z7)(g:Int):((Nat×Nat)×Int×z7)->T (((Nat×Nat)×Int×z7)⊕z7)
 | (c,b,a)=>let d:=c.1+(zE b); let e:=c.1+(zE (ql (b+1))); let f:=zL a d (wo a e (zb (.int .i64)));
 W (zA (b<(ql (g-1))))
  (.zl (xb (ql (b+1)) c.2) <|
 .zl (uT a.length a.length e a.length) <|
 .zl (xb b c.2) <|
 .zl (uT a.length a.length d a.length) <|
 .zl (xb b c.2) <|
 .zl (uT a.length a.length d a.length) <|
 .zl (xb (ql (b+1)) c.2) <|
 .zl (uT a.length a.length e f.length) <|
 R a <|
 .zl (a.length=(zL f e (wo a d (zb (.int .i64)))).length) <|
 Y (zG (c,((ql (b+1)),(zL f e (wo a d (zb (.int .i64))))))))
  (R a <|
 Y (zF a))
def uj self_slices_symMergeCmpFunc_int i2 s:=zJ (ur self_slices_symMergeCmpFunc_int i2) s
def uu(i:(Nat×Nat)->Int->Int->Int->zw->z7->T z7)(f:Int)(h:zw):((Nat×Nat)×Int×Int×z7)->T (((Nat×Nat)×Int×Int×z7)⊕(((Nat×Nat)×Int×z7)))
 | (b,d,e,a)=>let c:=ql (jx .u64 (wm (ql (d+e))) 1);
 W (zA (d<e))
  (.zl (0<=(1:Int)) <|
 .zl (xb f b.2) <|
 .zl (uT a.length a.length (b.1+(zE f)) a.length) <|
 .zl (xb c b.2) <|
 .zl (uT a.length a.length (b.1+(zE c)) a.length) <|
 I (wA (wo a (b.1+(zE f)) (zb (.int .i64))) (wo a (b.1+(zE c)) (zb (.int .i64))) h) λg =>
 W (!(zA (g<0)))
  (R a <|
 R a <|
 Y (zG (b,((ql (c+1)),(e,a)))))
  (R a <|
 R a <|
 Y (zG (b,(d,(c,a))))))
  (R a <|
 R a <|
 Y (zF (b,(d,a))))
def uk self_slices_symMergeCmpFunc_int m1 cmp2 s:=zJ (uu self_slices_symMergeCmpFunc_int m1 cmp2) s
def uv(h:(Nat×Nat)->Int->Int->Int->zw->z7->T z7)(g:Int):((Nat×Nat)×Int×z7)->T (((Nat×Nat)×Int×z7)⊕z7)
 | (c,b,a)=>let d:=c.1+(zE b); let e:=c.1+(zE (ql (b-1))); let f:=zL a d (wo a e (zb (.int .i64)));
 W (zA (g<b))
  (.zl (xb (ql (b-1)) c.2) <|
 .zl (uT a.length a.length e a.length) <|
 .zl (xb b c.2) <|
 .zl (uT a.length a.length d a.length) <|
 .zl (xb b c.2) <|
 .zl (uT a.length a.length d a.length) <|
 .zl (xb (ql (b-1)) c.2) <|
 .zl (uT a.length a.length e f.length) <|
 R a <|
 .zl (a.length=(zL f e (wo a d (zb (.int .i64)))).length) <|
 Y (zG (c,((ql (b-1)),(zL f e (wo a d (zb (.int .i64))))))))
  (R a <|
 Y (zF a))
def um self_slices_symMergeCmpFunc_int i5 s:=zJ (uv self_slices_symMergeCmpFunc_int i5) s
def uw(i:(Nat×Nat)->Int->Int->Int->zw->z7->T z7)(j:Int)(k:Int)(l:Int)(h:zw)(m:Int)(n:Int)(f:Int):((Nat×Nat)×Int×Int×z7)->T (((Nat×Nat)×Int×Int×z7)⊕(((Nat×Nat)×Int×z7)))
 | (b,d,e,a)=>let c:=ql (jx .u64 (wm (ql (d+e))) 1);
 W (zA (d<e))
  (.zl (0<=(1:Int)) <|
 .zl (xb (ql (f-c)) b.2) <|
 .zl (uT a.length a.length (b.1+(zE (ql (f-c)))) a.length) <|
 .zl (xb c b.2) <|
 .zl (uT a.length a.length (b.1+(zE c)) a.length) <|
 I (wA (wo a (b.1+(zE (ql (f-c)))) (zb (.int .i64))) (wo a (b.1+(zE c)) (zb (.int .i64))) h) λg =>
 W (!(zA (g<0)))
  (R a <|
 R a <|
 Y (zG (b,((ql (c+1)),(e,a)))))
  (R a <|
 R a <|
 Y (zG (b,(d,(c,a))))))
  (R a <|
 R a <|
 Y (zF (b,(d,a))))
def uo self_slices_symMergeCmpFunc_int a2 m2 b1 cmp3 mid n p s:=zJ (uw self_slices_symMergeCmpFunc_int a2 m2 b1 cmp3 mid n p) s
def vC(g:(Nat×Nat)->Int->Int->Int->zw->z7->T z7)(s:(Nat×Nat))(c:Int)(a:Int)(h:Int)(j:zw)(d:z7):T z7 :=
 let b:=ql (jx .u64 (wm (ql (c+h))) 1);  W ((ql (a-c))==1)
  (R d <|
 R d <|
 I (ui g c j (s,(a,(h,d)))) λ(w,x,m) =>
 R m <|
 R m <|
 I (uj g x (w,(c,m))) λt =>
 R t <|
 Y t)
  (W ((ql (h-a))==1)
  (R d <|
 R d <|
 I (uk g a j (s,(c,(a,d)))) λ(y,z,n) =>
 R n <|
 R n <|
 I (um g z (y,(a,n))) λu =>
 R u <|
 Y u)
  (.zl (0<=(1:Int)) <|
 R d <|
 R d <|
 I (uo g c a h j b (ql (b+a)) (ql ((ql (b+a))-1)) (s,((bif (zA (b<a))then(ql ((ql (b+a))-h))else c),((bif (zA (b<a))then b else a),d)))) λ(o,i,e)=>let l:=ql ((ql (b+a))-i);
 I (W ((zA (i<a))&&(zA (a<l)))
  (R e <|
 R e <|
 I (jB o i a l (λz0 z1=>wA z0 z1 j) e) λp =>
 .zl (e.length=p.length) <|
 R p <|
 Y (o,p))
  (R e <|
 R e <|
 Y (o,e)):T (((Nat×Nat)×z7))) λ(q,f) =>
 I (W ((zA (c<i))&&(zA (i<b)))
  (R f <|
 R f <|
 I (g q c i b j f) λr =>
 .zl (f.length=r.length) <|
 R r <|
 Y (q,r))
  (R f <|
 R f <|
 Y (q,f)):T (((Nat×Nat)×z7))) λ(A,k) =>
 W ((zA (b<l))&&(zA (l<h)))
  (R k <|
 R k <|
 I (g A b l h j k) λv =>
 R v <|
 Y v)
  (R k <|
 Y k)))
def vW(zfC:(Nat×Nat))(a:Int)(m:Int)(b:Int)(cmp:zw)(data:z7):T z7:=T.fix (λF x=>vC (λy0 y1 y2 y3 y4 y5=>F (y0,y1,y2,y3,y4,y5)) x.1 x.2.1 x.2.2.1 x.2.2.2.1 x.2.2.2.2.1 x.2.2.2.2.2) (zfC,a,m,b,cmp,data)
def kW(f:Int)(g:zw)(h:Int):((Nat×Nat)×Int×Int×z7)->T (((Nat×Nat)×Int×Int×z7)⊕(((Nat×Nat)×Int×z7)))
 | (d,e,b,a) =>
 W (zA (b<=f))
  (R a <|
 R a <|
 I (vd d e b (λz0 z1=>wA z0 z1 g) a) λc =>
 .zl (a.length=c.length) <|
 R c <|
 Y (zG (d,(b,((ql (b+h)),c)))))
  (R a <|
 R a <|
 Y (zF (d,(e,a))))
def kT n1 cmp1 blockSize s:=zJ (kW n1 cmp1 blockSize) s
def kY(g:Int)(h:zw)(f:Int):((Nat×Nat)×Int×Int×z7)->T (((Nat×Nat)×Int×Int×z7)⊕(((Nat×Nat)×Int×z7)))
 | (d,e,b,a) =>
 W (zA (b<=g))
  (R a <|
 R a <|
 I (vW d e (ql (e+f)) b h a) λc =>
 .zl (a.length=c.length) <|
 R c <|
 Y (zG (d,(b,((ql (b+(ql (2*f)))),c)))))
  (R a <|
 R a <|
 Y (zF (d,(e,a))))
def kV n3 cmp3 blockSize2 s:=zJ (kY n3 cmp3 blockSize2) s
def kX(d:Int)(h:zw):((Nat×Nat)×Int×z7)->T (((Nat×Nat)×Int×z7)⊕z7)
 | (i,b,c) =>
 W (zA (b<d))
  (R c <|
 R c <|
 I (kV d h b (i,(0,((ql (2*b)),c)))) λ(e,f,a) =>
 W (zA ((ql (f+b))<d))
  (R a <|
 R a <|
 I (vW e f (ql (f+b)) d h a) λg =>
 .zl (a.length=g.length) <|
 R g <|
 Y (zG (e,((ql (b*2)),g))))
  (R a <|
 R a <|
 Y (zG (e,((ql (b*2)),a)))))
  (R c <|
 Y (zF c))
def kU n2 cmp2 s:=zJ (kX n2 cmp2) s
def jC(i:(Nat×Nat))(c:Int)(d:zw)(e:z7):T z7 :=
 R e <|
 R e <|
 I (kT c d 20 (i,(0,(20,e)))) λ(f,h,a) =>
 R a <|
 R a <|
 I (vd f h c (λz0 z1=>wA z0 z1 d) a) λb =>
 .zl (a.length=b.length) <|
 R b <|
 I (kU c d (f,(20,b))) λg =>
 R g <|
 Y g
def uD(c:(Nat×Nat))(d:zw)(a:z7):T z7 :=
 R a <|
 R a <|
 I (jC c (zN c.2:Int) d a) λb =>
 R b <|
 Y b
def cI(b:z7)(c:z7)(d:Int):Int->T (Int⊕(Unit⊕Bool))
 | a =>
 W (zA (a<d))
  (oI a b <|
 oI a c <|
 W ((nth b a (zb (.int .i64))) != (nth c a (zb (.int .i64))))
  (Y (zF (zF false)))
  (Y (zG (ql (a+1)))))
  (Y (zF (zG ())))
def lN s11 s21 x s:=zJ (cI s11 s21 x) s
def yq(a:z7)(b:z7):T Bool :=
 W ((a.length:Int) != (b.length:Int))
  (Y false)
  (I (lN a b (a.length:Int) 0) <|
 zK (λ_ =>
 Y true)
  (λc =>
 Y c))
def kC(k:Int->(zw×Unit)->z7->z7->T (Int×(zw×Unit)×z7×z7))(l:Int)(h:wE)(m:Int):(Int×Int×(zw×Unit)×z7×z7)->T ((Int×Int×(zw×Unit)×z7×z7)⊕((Int×(zw×Unit)×z7×z7)))
 | (f,c,g,a,b) =>
 W (zA (c<m))
  (oI c h <|
 W ((nth h c (zb qk)).1 != l)
  (oC a <|
 oC b <|
 R a <|
 R b <|
 I (k (nth h c (zb qk)).1 (g.1,()) a b) λ(i,j,d,e) =>
 oC d <|
 oC e <|
 R d <|
 R e <|
 Y (zG ((lU f i),((ql (c+1)),((j.1,()),(d,e))))))
  (oC a <|
 oC b <|
 R a <|
 R b <|
 Y (zG (f,((ql (c+1)),((g.1,()),(a,b)))))))
  (oC a <|
 oC b <|
 R a <|
 R b <|
 Y (zF (f,((g.1,()),(a,b)))))
def bj self_delta_choice_strong v1 x x1 s:=zJ (kC self_delta_choice_strong v1 x x1) s
def jc(j:Int->(zw×Unit)->z7->z7->T (Int×(zw×Unit)×z7×z7))(e:Int)(b:(zw×Unit))(c:z7)(a:z7):T (Int×(zw×Unit)×z7×z7) :=
 let d:=wo a (0+(zE e)) (zb (.int .i64));  oI e a <|
 .zl (uT a.length a.length (0+(zE e)) a.length) <|
 W (d==(-1))
  (oC c <|
 oC a <|
 R c <|
 R a <|
 Y (4,((b.1,()),(c,a))))
  (oI d b.1 <|
 oI d b.1 <|
 oC c <|
 oC a <|
 R c <|
 R a <|
 I (bj j e (nth b.1 d (zb zp)).2.1 (zN (zO (nth b.1 d (zb zp)).2.1):Int) ((nth b.1 d (zb zp)).1,(0,((b.1,()),(c,a))))) λ(h,i,f,g) =>
 oC f <|
 oC g <|
 R f <|
 R g <|
 Y (h,((i.1,()),(f,g))))
def jT(v:Int)(c:(zw×Unit))(xs:z7)(xs1:z7):T (Int×(zw×Unit)×z7×z7):=T.fix (λF x=>jc (λy0 y1 y2 y3=>F (y0,y1,y2,y3)) x.1 x.2.1 x.2.2.1 x.2.2.2) (v,c,xs,xs1)
def gE(f:wE)(m:Int):(Int×Int×Int×(zw×Unit)×z7×z7×z7)->T ((Int×Int×Int×(zw×Unit)×z7×z7×z7)⊕((Int×(zw×Unit)×z7×z7×z7)))
 | (j,k,a,l,g,d,e) =>
 W (zA (a<m))
  (oI a f <|
 oC d <|
 oC e <|
 R d <|
 R e <|
 I (jT (nth f a (zb qk)).1 (l.1,()) d e) λ(h,i,b,c) =>
 .zl (wfI (nth f a (zb qk)).1) <|
 W ((!(List.contains g (nth f a (zb qk)).1))&&(zA (k<h)))
  (oC b <|
 oC c <|
 R b <|
 R c <|
 Y (zG ((nth f a (zb qk)).1,(h,((ql (a+1)),((i.1,()),(g,(b,c))))))))
  (oC b <|
 oC c <|
 R b <|
 R c <|
 Y (zG (j,(k,((ql (a+1)),((i.1,()),(g,(b,c)))))))))
  (oC d <|
 oC e <|
 R d <|
 R e <|
 Y (zF (j,((l.1,()),(g,(d,e))))))
def eF x x1 s:=zJ (gE x x1) s
def yw(b:Int)(a:(zw×Unit))(j:z7)(e:z7)(f:z7):T (Int×(zw×Unit)×z7×z7×z7) :=
 oI b a.1 <|
 oI b a.1 <|
 oC e <|
 oC f <|
 R e <|
 R f <|
 I (eF (nth a.1 b (zb zp)).2.1 (zN (zO (nth a.1 b (zb zp)).2.1):Int) ((-1),((nth a.1 b (zb zp)).1,(0,((a.1,()),(j,(e,f))))))) λ(g,h,i,c,d) =>
 oC c <|
 oC d <|
 R c <|
 R d <|
 Y (g,((h.1,()),(i,(c,d))))
def yZ(h:Int)(e:wE)(g:Int):(Int×(zw×Unit)×z7×z7×z7)->T ((Int×(zw×Unit)×z7×z7×z7)⊕(((zw×Unit)×z7×z7×z7)))
 | (c,f,a,b,d) =>
 W (zA (c<g))
  (oI c e <|
 .zl (z3g true (nth e c (zb qk)).1 d) <|
 oC a <|
 oC b <|
 R a <|
 R b <|
 Y (zG ((ql (c+1)),((f.1,()),(a,(b,(d++([(nth e c (zb qk)).1]:List Int))))))))
  (oC a <|
 oC b <|
 R a <|
 R b <|
 Y (zF ((f.1,()),(a,(b,d)))))
def yX out x x1 s:=zJ (yZ out x x1) s
def yY  : (Int×(zw×Unit)×z7×z7×z7)->T ((Int×(zw×Unit)×z7×z7×z7)⊕(((zw×Unit)×z7×z7×z7)⊕((zw×Unit)×z7×z7×z7)))
 | (c,r,f,g,s) =>
 W (c != (-1))
  (oC f <|
 oC g <|
 R f <|
 R g <|
 I (yw c (r.1,()) s f g) λ(j,l,m,a,b)=>let h:=0+(zE j); let i:=wo b h (zb (.int .i64)); let p:=zL a (0+(zE i)) (-1);
 W (j==(-1))
  (oC a <|
 oC b <|
 R a <|
 R b <|
 Y (zF (zF ((l.1,()),(a,(b,m))))))
  (oI j b <|
 .zl (uT b.length b.length h b.length) <|
 I (W (i != (-1))
  (oI i a <|
 .zl (uT a.length a.length (0+(zE i)) a.length) <|
 .zl (zu a.length 0 a.length p.length) <|
 oC b <|
 .zl (a.length=p.length) <|
 R b <|
 Y ((l.1,()),(p,(b,m))))
  (oC a <|
 oC b <|
 R a <|
 R b <|
 Y ((l.1,()),(a,(b,m)))):T (((zw×Unit)×z7×z7×z7))) λ(k,e,d,t)=>let q:=zL e (0+(zE c)) j;
 oI c e <|
 .zl (uT e.length e.length (0+(zE c)) e.length) <|
 oI j d <|
 .zl (uT d.length d.length h d.length) <|
 oI c k.1 <|
 .zl (zu e.length 0 e.length q.length) <|
 .zl (zu d.length 0 d.length (zL d h c).length) <|
 .zl (e.length=q.length) <|
 .zl (d.length=(zL d h c).length) <|
 I (yX i (nth k.1 c (zb zp)).2.1 (zN (zO (nth k.1 c (zb zp)).2.1):Int) (0,((k.1,()),(q,((zL d h c),t))))) λ(u,n,o,v) =>
 oC n <|
 oC o <|
 R n <|
 R o <|
 Y (zG (i,((u.1,()),(n,(o,v)))))))
  (oC f <|
 oC g <|
 R f <|
 R g <|
 Y (zF (zG ((r.1,()),(f,(g,s))))))
def dB(s:(Int×(zw×Unit)×z7×z7×z7)):T (((zw×Unit)×z7×z7×z7)⊕((zw×Unit)×z7×z7×z7)):=zJ (yY ) s
def y6(i:Int)(j:(zw×Unit))(e:z7)(f:z7):T ((zw×Unit)×z7×z7) :=
 oC e <|
 oC f <|
 R e <|
 R f <|
 I (dB  (i,((j.1,()),(e,(f,[]))))) <|
 zK (λ(g,a,b,k) =>
 oC a <|
 oC b <|
 R a <|
 R b <|
 Y ((g.1,()),(a,b)))
  (λ(h,c,d,l) =>
 oC c <|
 oC d <|
 R c <|
 R d <|
 Y ((h.1,()),(c,d)))
def oe(g:zw)(f:Int):(Int×(zw×Unit)×z7×z7×z7)->T ((Int×(zw×Unit)×z7×z7×z7)⊕(((zw×Unit)×z7×z7×z7)))
 | (d,e,b,c,a) =>
 W (zA (d<f))
  (oA a 8 <|
 .zl (zu (a.length+1) 0 (a.length+1) (a++[d]).length) <|
 oC b <|
 oC c <|
 R b <|
 R c <|
 .zl ((a.length+1)=(a++[d]).length) <|
 Y (zG ((ql (d+1)),((e.1,()),(b,(c,(a++[d])))))))
  (oC a <|
 oC b <|
 oC c <|
 R b <|
 R c <|
 R a <|
 Y (zF ((e.1,()),(b,(c,a)))))
def QE l1 x s:=zJ (oe l1 x) s
def oh(k:(List Int×Bool))(j:Int):(Int×(zw×Unit)×z7×z7×z7)->T ((Int×(zw×Unit)×z7×z7×z7)⊕(((zw×Unit)×z7×z7×z7)))
 | (d,h,b,c,a)=>let e:=wo a (0+(zE d)) (zb (.int .i64));
 W (zA (d<j))
  (oI d a <|
 .zl (uT a.length a.length (0+(zE d)) a.length) <|
 oI e b <|
 .zl (uT b.length b.length (0+(zE e)) b.length) <|
 W ((wo b (0+(zE e)) (zb (.int .i64)))==(-1))
  (oC b <|
 oC c <|
 R b <|
 R c <|
 I (y6 e (h.1,()) b c) λ(i,f,g) =>
 oC a <|
 oC a <|
 oC f <|
 oC g <|
 R f <|
 R g <|
 R a <|
 Y (zG ((ql (d+1)),((i.1,()),(f,(g,a))))))
  (oC a <|
 oC a <|
 oC b <|
 oC c <|
 R b <|
 R c <|
 R a <|
 Y (zG ((ql (d+1)),((h.1,()),(b,(c,a)))))))
  (oC a <|
 oC b <|
 oC c <|
 R b <|
 R c <|
 R a <|
 Y (zF ((h.1,()),(b,(c,a)))))
def QG ahead1 x3 s:=zJ (oh ahead1 x3) s
def og  : ((List Int×Bool)×(zw×Unit)×z7×z7×z7)->T (((List Int×Bool)×(zw×Unit)×z7×z7×z7)⊕(((zw×Unit)×z7×z7×z7)))
 | (l,m,b,e,f) =>
 I (W (!l.2)
  (oC f <|
 oC b <|
 oC e <|
 R b <|
 R e <|
 R f <|
 Y (true,((m.1,()),(b,(e,f)))))
  (R b <|
 I (yq l.1 (zH 0 (zI (0+b.length) b))) λn =>
 oC f <|
 oC b <|
 oC e <|
 R b <|
 R e <|
 R f <|
 Y ((!n),((m.1,()),(b,(e,f))))):T ((Bool×(zw×Unit)×z7×z7×z7))) λ(o,k,a,d,c)=>let j:=zH 0 (zI (0+a.length) a);
 W o
  (R a <|
 .zl ((j.length*8)<=140737488355328) <|
 oC c <|
 oC c <|
 oC a <|
 oC d <|
 R a <|
 R d <|
 R c <|
 I (QG (j,true) (c.length:Int) (0,((k.1,()),(a,(d,c))))) λ(p,g,h,i) =>
 oC i <|
 oC g <|
 oC h <|
 R g <|
 R h <|
 R i <|
 Y (zG ((j,true),((p.1,()),(g,(h,i))))))
  (oC a <|
 oC d <|
 R a <|
 R d <|
 R c <|
 Y (zF ((k.1,()),(a,(d,c)))))
def QF(s:((List Int×Bool)×(zw×Unit)×z7×z7×z7)):T (((zw×Unit)×z7×z7×z7)):=zJ (og ) s
def pc(b:zw)(i:z7)(p:Int):T (z7×Bool) :=
 I (bM b i p) <|
 zK (λ(j,k,c,d) =>
 W (!j)
  (I (yp i) λl =>
 Y (l,false))
  (.zl (zu 0 0 0 0) <|
 oC c <|
 oC d <|
 R c <|
 R d <|
 .zl (0=0) <|
 I (QE b (b.length:Int) (0,((k.1,()),(c,(d,[]))))) λ(m,e,f,a) =>
 R a <|
 R a <|
 I (uD (0,a.length) b a) λg =>
 .zl (zu a.length 0 a.length g.length) <|
 oC e <|
 oC f <|
 R e <|
 R f <|
 R g <|
 I (QF  (([],false),((m.1,()),(e,(f,g))))) λ(q,h,r,s) =>
 R h <|
 Y ((zH 0 (zI (0+h.length) h)),true)))
  (λn =>
 W (!n)
  (I (yp i) λo =>
 Y (o,false))
  (.fail))
def Qu(a:vO):T Bool :=
 W ((a.2.1.length:Int)==0)
  (I (lA a.2.2.1) λb =>
 Y b)
  (Y false)
def Z9(c:zw)(d:z7)(e:Int):T Bool :=
 I (bM c d e) <|
 zK (λ(a,f,g,h) =>
 Y a)
  (λb =>
 Y b)
def yI(b:z7)(c:Int)(d:Int):Int->T (Int⊕(Unit⊕Int))
 | a =>
 W (zA (a<d))
  (oI a b <|
 W (c==(nth b a (zb (.int .i64))))
  (Y (zF (zF a)))
  (Y (zG (ql (a+1)))))
  (Y (zF (zG ())))
def yH s1 v1 x s:=zJ (yI s1 v1 x) s
def uM(a:z7)(c:Int):T Int :=
 I (yH a c (a.length:Int) 0) <|
 zK (λ_ =>
 Y (-1))
  (λb =>
 Y b)
def jy(b:z7)(c:Int):T Bool :=
 I (uM b c) λa =>
 Y (zA (0<=a))
def dt(b:Term)(c:z7)(d:Int)(a:z7):T (Bool×z7) :=
 oI d c <|
 W (b.1 != (nth c d (zb (.int .i64))))
  (R a <|
 I (jy (zH 0 (zI (0+a.length) a)) b.1) λe =>
 oC a <|
 R a <|
 Y (e,a))
  (oC a <|
 R a <|
 Y (false,a))
def vu(e:wE)(g:Int):((z7×Int×Unit)×Int×z7)->T (((z7×Int×Unit)×Int×z7)⊕(z7⊕(Int×z7)))
 | (d,c,b) =>
 W (zA (c<g))
  (oI c e <|
 oC b <|
 R b <|
 I (dt (nth e c (zb qk)) d.1 d.2.1 b) λ(f,a) =>
 W f
  (oC a <|
 R a <|
 Y (zF (zF (c,a))))
  (oC a <|
 R a <|
 Y (zG ((d.1,(d.2.1,())),((ql (c+1)),a)))))
  (oC b <|
 R b <|
 Y (zF (zG b)))
def vt s1 x s:=zJ (vu s1 x) s
def vS(d:wE)(e:(z7×Int×Unit))(c:z7):T (Int×z7) :=
 oC c <|
 R c <|
 I (vt d (d.length:Int) ((e.1,(e.2.1,())),(0,c))) <|
 zK (λa =>
 oC a <|
 R a <|
 Y ((-1),a))
  (λ(f,b) =>
 oC b <|
 R b <|
 Y (f,b))
def wK(e:wE)(c:(z7×Int×Unit))(b:z7):T (Bool×z7) :=
 oC b <|
 R b <|
 I (vS e (c.1,(c.2.1,())) b) λ(d,a) =>
 oC a <|
 R a <|
 Y ((zA (0<=d)),a)
def lH(b:Int)(d:zw)(f:z7)(a:z7):T (Bool×z7) :=
 oI b a <|
 .zl (uT a.length a.length (0+(zE b)) a.length) <|
 W ((wo a (0+(zE b)) (zb (.int .i64))) != (-1))
  (oI b d <|
 oC a <|
 R a <|
 I (wK (nth d b (zb zp)).2.1 (f,(b,())) a) λ(e,c) =>
 oC c <|
 R c <|
 Y ((!e),c))
  (oC a <|
 R a <|
 Y (false,a))
def Qs(g:zw):((zw×z7×Unit)×Int×z7×z7)->T (((zw×z7×Unit)×Int×z7×z7)⊕((z7×z7)))
 | (d,c,e,a) =>
 W (zA (c<(g.length:Int)))
  (oC e <|
 R e <|
 I (lH c d.1 d.2.1 e) λ(f,b) =>
 W (!f)
  (oC a <|
 oC b <|
 R b <|
 R a <|
 Y (zG ((d.1,(d.2.1,())),((ql (c+1)),(b,a)))))
  (oI c b <|
 .zl (uT b.length b.length (0+(zE c)) b.length) <|
 oA a 8 <|
 .zl (zu (a.length+1) 0 (a.length+1) (a++[c]).length) <|
 oM b.length (zL b (0+(zE c)) (-1)).length <|
 .zl ((a.length+1)=(a++[c]).length) <|
 Y (zG ((d.1,(d.2.1,())),(0,((zL b (0+(zE c)) (-1)),(a++[c])))))))
  (oC a <|
 oC e <|
 R e <|
 R a <|
 Y (zF (e,a)))
def J7 l1 s:=zJ (Qs l1) s
def Wz(c:zw)(d:z7)(f:Int):T z7 :=
 I (Z9 c d f) λe =>
 W (!e)
  (Y [])
  (I (ua d) λa =>
 .zl (zu 0 0 0 0) <|
 oC a <|
 R a <|
 .zl (0=0) <|
 I (J7 c ((c,(d,())),(0,(a,[])))) λ(g,b) =>
 R b <|
 Y (zH 0 (zI (0+b.length) b)))
def lJ(j:Int)(g:wE)(k:Int):(Int×zr×Rat×Rat×Rat)->T ((Int×zr×Rat×Rat×Rat)⊕((zr×Rat×Rat×Rat)))
 | (c,a,d,e,f)=>let b:=nth g c (zb qk);
 W (zA (c<k))
  (oI c g <|
 W (b.1==j)
  (oC a <|
 R a <|
 Y (zG ((ql (c+1)),(a,(d,(e,(b.2.1.1,(b.2.1.2.1,(b.2.1.2.2.1,())))))))))
  (.zl (xb b.1 a.length) <|
 .zl (uT a.length a.length (0+(zE b.1)) a.length) <|
 I (pG (b.2.1.1,(b.2.1.2.1,(b.2.1.2.2.1,()))) (wo a (0+(zE b.1)) (zb zm))) λh =>
 I (pF e h) λi =>
 oC a <|
 R a <|
 Y (zG ((ql (c+1)),(a,(d,(i,f)))))))
  (R a <|
 Y (zF (a,(d,(e,f)))))
def sA v1 x x1 s:=zJ (lJ v1 x x1) s
def tI(a:vO)(j:Int)(b:zr):T (Rat×zr) :=
 I (vJ a.2.2.1) λd =>
 I (gz 1) λe =>
 oC b <|
 R b <|
 I (sA j a.2.1 (a.2.1.length:Int) (0,(b,((false,(([]:List Int),(([]:List Int),()))),(d,e))))) λ(c,k,f,g) =>
 I (Qn f) λh =>
 I (tD h g) λ(i,l) =>
 R c <|
 Y (i,c)
def VO(f:zw)(g:z7)(h:zr)(d:zr)(e:Int):(Int×zr)->T ((Int×zr)⊕zr)
 | (b,a) =>
 W (zA (b<e))
  (oI b d <|
 I (vJ (nth d b (zb zm))) λc =>
 oA a 56 <|
 oM (a.length+1) (a++[c]).length <|
 Y (zG ((ql (b+1)),(a++[c]))))
  (oC a <|
 R a <|
 Y (zF a))
def GV l1 outs1 val1 x x1 s:=zJ (VO l1 outs1 val1 x x1) s
def Qt(i:zw)(f:z7)(j:z7)(l:Int):(Int×zr)->T ((Int×zr)⊕(zr⊕(Int×Int×zr)))
 | (d,a)=>let c:=nth j d (zb (.int .i64)); let e:=nth f c (zb (.int .i64));
 W (zA (d<l))
  (oI d j <|
 oI c i <|
 oI c f <|
 oC a <|
 R a <|
 I (tI (nth i c (zb zp)) e a) λ(h,b)=>let g:=zL b (0+(zE e)) h;
 I (cS h) λk =>
 W k
  (R b <|
 Y (zF (zF (c,(8,b)))))
  (oI c f <|
 oI e a <|
 .zl (uT a.length b.length (0+(zE e)) b.length) <|
 .zl (zu a.length 0 a.length g.length) <|
 .zl (b.length=g.length) <|
 Y (zG ((ql (d+1)),g))))
  (oC a <|
 R a <|
 Y (zF (zG a)))
def GW l2 outs2 x3 x4 s:=zJ (Qt l2 outs2 x3 x4) s
def Ym(b:zw)(c:z7)(a:zr):T (zr×Int×Int) :=
 I (Z9 b c (a.length:Int)) λg =>
 W (!g)
  (Y ([],((-1),1)))
  (oZ <|
 I (GV b c a a (a.length:Int) (0,[])) λd =>
 I (Wz b c (a.length:Int)) λf =>
 oC d <|
 R d <|
 I (GW b c f (f.length:Int) (0,d)) <|
 zK (λe =>
 R e <|
 Y ((zH 0 (zI (0+e.length) e)),((-1),0)))
  (λ(h,i,j) =>
 Y ([],(h,i))))
def sO(m:zw)(n:jg)(f:z7)(g:zw)(k:Int):(Int×jg×Int)->T ((Int×jg×Int)⊕((jg×Int)⊕(Int×Int×jg×Int)))
 | (a,c,d)=>let b:=nth g a (zb zp);
 W (zA (a<k))
  (oI a g <|
 I (W (b.1==0)
  (oI a f <|
 W (zA ((nth f a (zb (.int .i64)))<0))
  (I (Qu b) λh =>
 Y ((!h),(c,(d,b))))
  (Y (false,(c,(d,b)))))
  (Y (false,(c,(d,b)))):T ((Bool×jg×Int×vO))) λ(i,j,e,l) =>
 W i
  (Y (zF (zF (a,(10,((([]:List Int),(([]:List Rat),())),e))))))
  (Y (zG ((ql (a+1)),(j,e)))))
  (Y (zF (zG (c,d))))
def XQ l1 s1 outs1 x1 x2 s:=zJ (sO l1 s1 outs1 x1 x2) s
def tM(a:zw)(b:jg):T (jg×Int×Int) :=
 let c:=((([]:List Int),(([]:List Rat),())),(b.2.1.length:Int));  I (W (zA ((b.2.1.length:Int)<1))
  (Y (true,c))
  (W (zA (64<(b.2.1.length:Int)))
  (Y (true,c))
  (W (zA (256<(a.length:Int)))
  (Y (true,c))
  (W ((b.1.length:Int) != (a.length:Int))
  (Y (true,c))
  (I (gu a (λh=>gw h (b.2.1.length:Int))) λi =>
 Y (i,c))))):T ((Bool×jg×Int))) λ(j,k,d) =>
 W j
  (Y ((([]:List Int),(([]:List Rat),())),((-1),1)))
  (I (nH a d) λf =>
 W (zA (0<=f))
  (Y ((([]:List Int),(([]:List Rat),())),(f,9)))
  (I (pc a b.1 d) λ(e,l) =>
 W (!l)
  (Y ((([]:List Int),(([]:List Rat),())),((-1),1)))
  (I (XQ a b e a (a.length:Int) (0,(k,d))) <|
 zK (λ(r,s) =>
 I (Ym a e b.2.1) λ(m,n,g) =>
 W (g != 0)
  (Y ((([]:List Int),(([]:List Rat),())),(n,g)))
  (Y ((e,(m,())),((-1),0))))
  (λ(o,p,q,t) =>
 Y (q,(o,p))))))
def dm(b:Int)(a:ux):T (zt×ux) :=
 let c:=nth a.2.2.2.1 b (zb (.int .i64));  W (zA (b<0))
  (Y ([],a))
  (oI b a.2.2.2.1 <|
 W (zA (c<(a.1.2.2.2.2.1.length:Int)))
  (oI b a.2.2.2.1 <|
 oI c a.1.2.2.2.2.1 <|
 Y (([(nth a.1.2.2.2.2.1 c (zb xn)).1]:List zo),a))
  (oI b a.2.2.2.1 <|
 oI (ql (c-(a.1.2.2.2.2.1.length:Int))) a.1.2.2.2.1 <|
 Y (([(nth a.1.2.2.2.1 (ql (c-(a.1.2.2.2.2.1.length:Int))) (zb qw)).1]:List zo),a)))
def ke(g:zr)(a:ux):T (zr×zt×Int×ux) :=
 I (tM a.2.1 (a.2.2.1,(g,()))) λ(b,d,c) =>
 W (c != 0)
  (I (dm d a) λ(e,f) =>
 Y ([],(e,(c,f))))
  (Y (b.2.1,([],(0,((a.1.1,(a.1.2.1,(a.1.2.2.1,(a.1.2.2.2.1,(a.1.2.2.2.2.1,(a.1.2.2.2.2.2.1,())))))),(a.2.1,(b.1,(a.2.2.2.1,()))))))))
def u7(a:zr):T zr :=
 .zl (a=[]->∀ r,T.leads (.zl (ub 0 0 0 0 0 a.length 56) <|
 .zl (zu (0+a.length) 0 (0+a.length) a.length) <|
 .zl ((0+a.length)=a.length) <|
 Y a:T _) r->T.leads (.zl (zu 0 0 0 0) <|
 .zl (0=0) <|
 Y []:T _) r) <|
 .zl (ub 0 0 0 0 0 a.length 56) <|
 oM (0+a.length) a.length <|
 Y a
def vR(a:zn):T zn :=
 .zl (a=[]->∀ r,T.leads (.zl (ub 0 0 0 0 0 a.length 1) <|
 .zl (zu (0+a.length) 0 (0+a.length) a.length) <|
 .zl ((0+a.length)=a.length) <|
 Y a:T _) r->T.leads (.zl (zu 0 0 0 0) <|
 .zl (0=0) <|
 Y []:T _) r) <|
 .zl (ub 0 0 0 0 0 a.length 1) <|
 oM (0+a.length) a.length <|
 Y a
def uF(a:qc):T qc :=
 .zl (a=[]->∀ r,T.leads (.zl (ub 0 0 0 0 0 a.length 64) <|
 .zl (zu (0+a.length) 0 (0+a.length) a.length) <|
 .zl ((0+a.length)=a.length) <|
 Y a:T _) r->T.leads (.zl (zu 0 0 0 0) <|
 .zl (0=0) <|
 Y []:T _) r) <|
 .zl (ub 0 0 0 0 0 a.length 64) <|
 oM (0+a.length) a.length <|
 Y a
def mv(a:we):T (Unit×zr×zn×zr×z7×qc×zn) :=
 I (u7 a.1) λb =>
 I (vR a.2.1) λc =>
 I (u7 a.2.2.1) λd =>
 I (ua a.2.2.2.1) λe =>
 I (uF a.2.2.2.2.1) λf =>
 I (vR a.2.2.2.2.2.1) λg =>
 oY b c d e f g <|
 Y ((),(b,(c,(d,(e,(f,g))))))
def dD(l:Int):(Int×ux×(zr×Unit)×we×zr×zn×zr×z7×qc×zn)->T ((Int×ux×(zr×Unit)×we×zr×zn×zr×z7×qc×zn)⊕((ux×(zr×Unit)×we×zr×zn×zr×z7×qc×zn)))
 | (f,i,j,k,b,c,g,a,d,e)=>let h:=zL a (0+(zE f)) (-1);
 W (zA (f<l))
  (oI f a <|
 .zl (uT a.length a.length (0+(zE f)) a.length) <|
 oC b <|
 oC c <|
 .zl (zu a.length 0 a.length h.length) <|
 oC d <|
 oC e <|
 R b <|
 R c <|
 R g <|
 .zl (a.length=h.length) <|
 R d <|
 R e <|
 Y (zG ((ql (f+1)),(i,((j.1,()),(k,(b,(c,(g,(h,(d,e)))))))))))
  (oC b <|
 oC c <|
 oC a <|
 oC d <|
 oC e <|
 oW b c g a d e <|
 Y (zF (i,((j.1,()),(k,(b,(c,(g,(a,(d,e))))))))))
def ny x s:=zJ (dD x) s
def dE(m:z7)(q:Int):(Int×ux×(zr×Unit)×we×zr×zn×zr×z7×qc×zn)->T ((Int×ux×(zr×Unit)×we×zr×zn×zr×z7×qc×zn)⊕((ux×(zr×Unit)×we×zr×zn×zr×z7×qc×zn)))
 | (f,i,k,l,c,d,g,a,b,e)=>let h:=nth i.2.2.2.1 f (zb (.int .i64)); let n:=zL a (0+(zE h)) (nth m f (zb (.int .i64))); let o:=0+(zE (ql (h-(a.length:Int)))); let j:=wo b o (zb zx); let p:=zL b o (j.1,(((nth m f (zb (.int .i64))) != (-1)),((j.2.2.1.1,(j.2.2.1.2.1,(j.2.2.1.2.2.1,()))),())));
 W (zA (f<q))
  (oI f m <|
 oI f i.2.2.2.1 <|
 W (zA (h<(a.length:Int)))
  (oI h a <|
 .zl (uT a.length a.length (0+(zE h)) a.length) <|
 oC c <|
 oC d <|
 .zl (zu a.length 0 a.length n.length) <|
 oC b <|
 oC e <|
 R c <|
 R d <|
 R g <|
 .zl (a.length=n.length) <|
 R b <|
 R e <|
 Y (zG ((ql (f+1)),(i,((k.1,()),(l,(c,(d,(g,(n,(b,e)))))))))))
  (oI (ql (h-(a.length:Int))) b <|
 .zl (uT b.length b.length o b.length) <|
 oC c <|
 oC d <|
 oC a <|
 .zl (zu b.length 0 b.length p.length) <|
 oC e <|
 R c <|
 R d <|
 R g <|
 R a <|
 .zl (b.length=p.length) <|
 R e <|
 Y (zG ((ql (f+1)),(i,((k.1,()),(l,(c,(d,(g,(a,(p,e))))))))))))
  (oC c <|
 oC d <|
 oC a <|
 oC b <|
 oC e <|
 oW c d g a b e <|
 Y (zF (i,((k.1,()),(l,(c,(d,(g,(a,(b,e))))))))))
def nA x2 x3 s:=zJ (dE x2 x3) s
def gR(w:we)(x:zr)(y:ux):T ((zr×Unit)×ux×zr×zn×z7×qc×zn) :=
 I (mv w) λ(z,b,c,q,a,d,e) =>
 oC b <|
 oC c <|
 oC a <|
 oC d <|
 oC e <|
 oW b c q a d e <|
 I (ny (a.length:Int) (0,(y,((x,()),((([]:List Rat),(([]:List Bool),(([]:List Rat),(([]:List Int),(([]:List vn),(([]:List Bool),())))))),(b,(c,(q,(a,(d,e)))))))))) λ(f,s,t,g,h,r,i,j,k) =>
 oC g <|
 oC h <|
 oC i <|
 oC j <|
 oC k <|
 oW g h r i j k <|
 I (nA f.2.2.1 (f.2.2.1.length:Int) (0,(f,((s.1,()),(t,(g,(h,(r,(i,(j,k)))))))))) λ(u,v,A,l,m,hl,n,o,p) =>
 oC l <|
 oC m <|
 oC n <|
 oC o <|
 oC p <|
 R l <|
 R m <|
 R n <|
 R o <|
 R p <|
 Y ((v.1,()),(u,(l,(m,(n,(o,p))))))
def en(s:Form)(j:we):T ((zr×Unit)×zt×Int×zr×zn×z7×qc×zn) :=
 I (dC s j) <|
 zK (λ(k,a,b,c,d) =>
 W (k != 0)
  (.zl (zu 0 0 0 0) <|
 .zl (zu 0 0 0 0) <|
 .zl (zu 0 0 0 0) <|
 .zl (zu 0 0 0 0) <|
 oZ <|
 .zl (0=0) <|
 .zl (0=0) <|
 .zl (0=0) <|
 .zl (0=0) <|
 Y (([],()),([],(k,([],([],([],([],[]))))))))
  (R b <|
 R c <|
 R d <|
 I (ke j.2.2.1 ((a.1,(a.2.1,(a.2.2.1,(a.2.2.2.1,(a.2.2.2.2.1,(a.2.2.2.2.2.1,())))))),((zH 0 (zI (0+b.length) b)),((zH 0 (zI (0+c.length) c)),((zH 0 (zI (0+d.length) d)),()))))) λ(n,o,l,p) =>
 W (l != 0)
  (.zl (zu 0 0 0 0) <|
 .zl (zu 0 0 0 0) <|
 .zl (zu 0 0 0 0) <|
 .zl (zu 0 0 0 0) <|
 oZ <|
 .zl (0=0) <|
 .zl (0=0) <|
 .zl (0=0) <|
 .zl (0=0) <|
 Y (([],()),(o,(l,([],([],([],([],[]))))))))
  (I (gR j n p) λ(q,t,e,f,g,h,i) =>
 oC e <|
 oC f <|
 oC g <|
 oC h <|
 oC i <|
 R e <|
 R f <|
 R g <|
 R h <|
 R i <|
 Y ((q.1,()),([],(0,(e,(f,(g,(h,i))))))))))
  (λ(r,m) =>
 W (m != 0)
  (.zl (zu 0 0 0 0) <|
 .zl (zu 0 0 0 0) <|
 .zl (zu 0 0 0 0) <|
 .zl (zu 0 0 0 0) <|
 oZ <|
 .zl (0=0) <|
 .zl (0=0) <|
 .zl (0=0) <|
 .zl (0=0) <|
 Y (([],()),(r,(m,([],([],([],([],[]))))))))
  (.fail))
def ZQ(s:Form)(n:qh)(p:Int):(Int×Unit×Unit×zn×zn×zn×zn×qc×qc×z7×z7×zr×zr×zr×zr)->T ((Int×Unit×Unit×zn×zn×zn×zn×qc×qc×z7×z7×zr×zr×zr×zr)⊕((Unit×Unit×zn×zn×zn×zn×qc×qc×z7×z7×zr×zr×zr×zr)))
 | (b,q,r,c,d,e,f,g,h,i,j,k,l,a,m) =>
 W (zA (b<p))
  (oI b n <|
 I (vJ ((nth n b (zb qg)).2.1.1,((nth n b (zb qg)).2.1.2.1,((nth n b (zb qg)).2.1.2.2.1,())))) λo =>
 oA a 56 <|
 oV k c l i g d <|
 .zl (zu (a.length+1) 0 (a.length+1) (a++[o]).length) <|
 oC e <|
 oC m <|
 oC j <|
 oC h <|
 oC f <|
 oW c d e f g h <|
 R i <|
 R j <|
 R k <|
 R l <|
 .zl ((a.length+1)=(a++[o]).length) <|
 R m <|
 Y (zG ((ql (b+1)),((),((),(c,(d,(e,(f,(g,(h,(i,(j,(k,(l,((a++[o]),m))))))))))))))))
  (oV k c l i g d <|
 oV a e m j h f <|
 oW c d e f g h <|
 oW i j k l a m <|
 Y (zF ((),((),(c,(d,(e,(f,(g,(h,(i,(j,(k,(l,(a,m)))))))))))))))
def Uh f1 x x1 s:=zJ (ZQ f1 x x1) s
def ZR(s:Form)(o:q9)(p:Int):(Int×Unit×Unit×zn×zn×zn×zn×qc×qc×z7×z7×zr×zr×zr×zr)->T ((Int×Unit×Unit×zn×zn×zn×zn×qc×qc×z7×z7×zr×zr×zr×zr)⊕((Unit×Unit×zn×zn×zn×zn×qc×qc×z7×z7×zr×zr×zr×zr)))
 | (m,q,r,b,c,a,d,e,f,g,h,i,j,k,l)=>let n:=a++([(nth o m (zb qe)).2.1]:List Bool);
 W (zA (m<p))
  (oI m o <|
 oA a 1 <|
 oV i b j g e c <|
 oC k <|
 .zl (zu (a.length+1) 0 (a.length+1) n.length) <|
 oC l <|
 oC h <|
 oC f <|
 oC d <|
 R b <|
 R c <|
 .zl ((a.length+1)=n.length) <|
 oW d e f g h i <|
 R j <|
 R k <|
 R l <|
 Y (zG ((ql (m+1)),((),((),(b,(c,(n,(d,(e,(f,(g,(h,(i,(j,(k,l))))))))))))))))
  (oV i b j g e c <|
 oV k a l h f d <|
 oW b c a d e f <|
 oW g h i j k l <|
 Y (zF ((),((),(b,(c,(a,(d,(e,(f,(g,(h,(i,(j,(k,l)))))))))))))))
def Ui f2 x3 x4 s:=zJ (ZR f2 x3 x4) s
def ZS(t:Form)(q:Int):(Int×Unit×Unit×zn×zn×zn×zn×qc×qc×z7×z7×zr×zr×zr×zr)->T ((Int×Unit×Unit×zn×zn×zn×zn×qc×qc×z7×z7×zr×zr×zr×zr)⊕((Unit×Unit×zn×zn×zn×zn×qc×qc×z7×z7×zr×zr×zr×zr)))
 | (p,r,s,d,e,f,a,g,c,h,i,j,k,l,b) =>
 W (zA (p<q))
  (I (gz 0) λm =>
 oA b 56 <|
 I (gz 0) λn=>let o:=c++([(false,(false,((n.1,(n.2.1,(n.2.2.1,()))),())))]:List vn);
 oA c 64 <|
 oA a 1 <|
 oV j d k h g e <|
 oC l <|
 oC f <|
 .zl (zu (b.length+1) 0 (b.length+1) (b++[m]).length) <|
 oC i <|
 .zl (zu (c.length+1) 0 (c.length+1) o.length) <|
 .zl (zu (a.length+1) 0 (a.length+1) (a++[false]).length) <|
 R d <|
 R e <|
 R f <|
 .zl ((a.length+1)=(a++[false]).length) <|
 R g <|
 .zl ((c.length+1)=o.length) <|
 R h <|
 R i <|
 R j <|
 R k <|
 R l <|
 .zl ((b.length+1)=(b++[m]).length) <|
 Y (zG ((ql (p+1)),((),((),(d,(e,(f,((a++[false]),(g,(o,(h,(i,(j,(k,(l,(b++[m])))))))))))))))))
  (oV j d k h g e <|
 oV l f b i c a <|
 oW d e f a g c <|
 oW h i j k l b <|
 Y (zF ((),((),(d,(e,(f,(a,(g,(c,(h,(i,(j,(k,(l,b)))))))))))))))
def Uj f3 x6 s:=zJ (ZS f3 x6) s
def ZT(q:Form)(n:Int):(Int×Unit×Unit×zn×zn×zn×zn×qc×qc×z7×z7×zr×zr×zr×zr)->T ((Int×Unit×Unit×zn×zn×zn×zn×qc×qc×z7×z7×zr×zr×zr×zr)⊕((Unit×Unit×zn×zn×zn×zn×qc×qc×z7×z7×zr×zr×zr×zr)))
 | (m,o,p,b,c,d,e,f,g,h,a,i,j,k,l) =>
 W (zA (m<n))
  (oA a 8 <|
 oV i b j h f c <|
 oC k <|
 oC d <|
 oC l <|
 .zl (zu (a.length+1) 0 (a.length+1) (a++([(-1)]:List Int)).length) <|
 oC g <|
 oC e <|
 oW b c d e f g <|
 R h <|
 .zl ((a.length+1)=(a++([(-1)]:List Int)).length) <|
 R i <|
 R j <|
 R k <|
 R l <|
 Y (zG ((ql (m+1)),((),((),(b,(c,(d,(e,(f,(g,(h,((a++([(-1)]:List Int)),(i,(j,(k,l))))))))))))))))
  (oV i b j h f c <|
 oV k d l a g e <|
 oW b c d e f g <|
 oW h a i j k l <|
 Y (zF ((),((),(b,(c,(d,(e,(f,(g,(h,(a,(i,(j,(k,l)))))))))))))))
def Uk f4 x8 s:=zJ (ZT f4 x8) s
def Wc(a:Form):T ((zr×Unit)×zt×Int×zr×zn×z7×qc×zn) :=
 .zl (zu 0 0 0 0) <|
 .zl (zu 0 0 0 0) <|
 .zl (zu 0 0 0 0) <|
 .zl (zu 0 0 0 0) <|
 .zl (zu 0 0 0 0) <|
 .zl (zu 0 0 0 0) <|
 .zl (zu 0 0 0 0) <|
 .zl (zu 0 0 0 0) <|
 .zl (zu 0 0 0 0) <|
 .zl (zu 0 0 0 0) <|
 .zl (zu 0 0 0 0) <|
 oZ <|
 .zl (0=0) <|
 .zl (0=0) <|
 .zl (0=0) <|
 .zl (0=0) <|
 .zl (0=0) <|
 .zl (0=0) <|
 .zl (0=0) <|
 .zl (0=0) <|
 .zl (0=0) <|
 .zl (0=0) <|
 .zl (0=0) <|
 I (Uh a a.2.1 (a.2.1.length:Int) (0,((),((),([],([],([],([],([],([],([],([],([],([],([],[]))))))))))))))) λ(ac,ad,b,c,d,e,f,g,h,i,j,k,l,m) =>
 oV j b k h f c <|
 oV l d m i g e <|
 oW b c d e f g <|
 oW h i j k l m <|
 I (Ui a a.1 (a.1.length:Int) (0,((),((),(b,(c,(d,(e,(f,(g,(h,(i,(j,(k,(l,m))))))))))))))) λ(ae,af,n,o,p,q,r,s,t,u,v,w,x,y) =>
 oV v n w t r o <|
 oV x p y u s q <|
 oW n o p q r s <|
 oW t u v w x y <|
 I (Uj a (a.2.2.2.1.length:Int) (0,((),((),(n,(o,(p,(q,(r,(s,(t,(u,(v,(w,(x,y))))))))))))))) λ(ag,ah,z,A,hl,C,D,κ',G,H,zC,hb,K,L) =>
 oV zC z hb G D A <|
 oV K hl L H κ' C <|
 oW z A hl C D κ' <|
 oW G H zC hb K L <|
 I (Uk a (a.2.2.2.2.1.length:Int) (0,((),((),(z,(A,(hl,(C,(D,(κ',(G,(H,(zC,(hb,(K,L))))))))))))))) λ(ai,aj,ak,al,M,N,am,κ,an,P,ao,ap,oE,S) =>
 oW oE M S P κ N <|
 I (en a ((zH 0 (zI (0+oE.length) oE)),((zH 0 (zI (0+M.length) M)),((zH 0 (zI (0+S.length) S)),((zH 0 (zI (0+P.length) P)),((zH 0 (zI (0+κ.length) κ)),((zH 0 (zI (0+N.length) N)),()))))))) λ(z6,aa,ab,hx,hd,zD,h2,zB) =>
 oC hx <|
 oC hd <|
 oC zD <|
 oC h2 <|
 oC zB <|
 R hx <|
 R hd <|
 R zD <|
 R h2 <|
 R zB <|
 Y ((z6.1,()),(aa,(ab,(hx,(hd,(zD,(h2,zB)))))))
def ku(a:Switch)(b:cv):T Bool :=
 Y (xw a.1 b.2.1)
def kt(d:zn)(h:Form)(f:xc)(i:Int):(Int×zn)->T ((Int×zn)⊕zn)
 | (b,a)=>let e:=a++[false];
 W (zA (b<i))
  (oI b f <|
 I (xm h.1 (λg=>ku g (nth f b (zb xi)))) λc =>
 W (xw (nth f b (zb xi)).2.1 [])
  (oA a 1 <|
 oM (a.length+1) (a++[true]).length <|
 Y (zG ((ql (b+1)),(a++[true]))))
  (W (zA (0<=c))
  (W (zA (c<(d.length:Int)))
  (oI c d <|
 oA a 1 <|
 oM (a.length+1) (a++([(nth d c (zb .bool))]:List Bool)).length <|
 Y (zG ((ql (b+1)),(a++([(nth d c (zb .bool))]:List Bool)))))
  (oA a 1 <|
 oM (a.length+1) e.length <|
 Y (zG ((ql (b+1)),e))))
  (oA a 1 <|
 oM (a.length+1) e.length <|
 Y (zG ((ql (b+1)),e)))))
  (oC a <|
 R a <|
 Y (zF a))
def Zs on1 f1 x x1 s:=zJ (kt on1 f1 x x1) s
def jr(b:Form)(c:zn):T zn :=
 oZ <|
 I (Zs c b b.2.2.1 (b.2.2.1.length:Int) (0,[])) λa =>
 R a <|
 Y (zH 0 (zI (0+a.length) a))
def iA(l:List Bool)(at_:Int):Nat->Int×Bool
 | 0=>(at_,false)
 | k+1=>if l[k]?.getD false=true/\(k:Int)<at_ then((k:Int),true)else iA l at_ k
def pU(b:Form)(c:zn)(d:Int):T (Int×Bool) :=
 I (jr b c) λa=>.zl (a.length*8<=140737488351232) (Y (iA a d a.length))
def Qj(c:Int)(b:zn)(d:Int):Int->T (Int⊕(Unit⊕(Int×Bool)))
 | a =>
 W (zA (a<d))
  (oI a b <|
 W ((nth b a (zb .bool))&&(zA (c<a)))
  (Y (zF (zF (a,true))))
  (Y (zG (ql (a+1)))))
  (Y (zF (zG ())))
def UZ at_1 x x1 s:=zJ (Qj at_1 x x1) s
def pV(e:Form)(f:zn)(b:Int):T (Int×Bool) :=
 I (jr e f) λa =>
 I (UZ b a (a.length:Int) 0) <|
 zK (λ_ =>
 Y (b,false))
  (λ(c,d) =>
 Y (c,d))
def Zr(c:Form)(d:zn)(a:Int):T Int :=
 I (jr c d) λb =>
 .zl (((zA (0<=a))=true)->(((zA (a<(b.length:Int)))=true)->(xb a b.length))) <|
 W ((zA (0<=a))&&((zA (a<(b.length:Int)))&&(nth b a (zb .bool))))
  (Y a)
  (I (pU c d a) λ(e,f) =>
 W f
  (Y e)
  (I (pV c d a) λ(g,h) =>
 W h
  (Y g)
  (Y 0)))
def ep(j:Form):T ((zo×Int×zk)⊕(zo×Int)) :=
 I (iC j) λ(h,k) =>
 W (h != 0)
  (Y (zF (k,h)))
  (I (mB j) λa =>
 I (Wc a) λ(l,b,i,d,c,e,f,g) =>
 W (i != 0)
  (.zl (((b.length+1)*16)<=140737488355328) <|
 .zl (xb 0 (b.length+1)) <|
 .zl (uT (b.length+1) (b.length+1) (0+(zE 0)) (b++([[]]:List zo)).length) <|
 Y (zF ((wo (b++([[]]:List zo)) (0+(zE 0)) (zb .str)),i)))
  (R d <|
 R c <|
 R e <|
 R f <|
 R g <|
 I (Zr a (zH 0 (zI (0+c.length) c)) 0) λm =>
 Y (zG ([],(0,((a.1,(a.2.1,(a.2.2.1,(a.2.2.2.1,(a.2.2.2.2.1,(a.2.2.2.2.2.1,())))))),(((zH 0 (zI (0+d.length) d)),((zH 0 (zI (0+c.length) c)),(l.1,((zH 0 (zI (0+e.length) e)),((zH 0 (zI (0+f.length) f)),((zH 0 (zI (0+g.length) g)),())))))),((([]:List zo),(([]:List zo),())),(m,(false,()))))))))))
def ek(a:Field)(b:zo):T Bool :=
 Y (xw a.1 b)
def cO(b:qp)(d:Field->T Bool)(e:Int):Int->T (Int⊕(Unit⊕Int))
 | a =>
 W (zA (a<e))
  (oI a b <|
 I (d (nth b a (zb qw))) λc =>
 W c
  (Y (zF (zF a)))
  (Y (zG (ql (a+1)))))
  (Y (zF (zG ())))
def oJ s1 f x s:=zJ (cO s1 f x) s
def gH(a:qp)(c:Field->T Bool):T Int :=
 I (oJ a c (a.length:Int) 0) <|
 zK (λ_ =>
 Y (-1))
  (λb =>
 Y b)
def Zd(c:Form)(d:zo):T Int :=
 I (gH c.2.2.2.1 (λa=>ek a d)) λb =>
 Y b
def cB(a:Rat):T Bool :=
 I (tW a) λb =>
 W b
  (I (cS a) λc =>
 Y (!c))
  (Y false)
def fN(b:Rat):T Bool :=
 I (cB b) λa =>
 Y (!a)
def Jy(a:vn):T Bool :=
 I (cB a.2.2.1) λb =>
 W b
  (W a.1
  (Y true)
  (W (!a.2.1)
  (I (lA a.2.2.1) λc =>
 Y c)
  (Y false)))
  (Y false)
def fO(b:vn):T Bool :=
 I (Jy b) λa =>
 Y (!a)
def c8(b:qc)(d:vn->T Bool)(e:Int):Int->T (Int⊕(Unit⊕Int))
 | a =>
 W (zA (a<e))
  (oI a b <|
 I (d (nth b a (zb zx))) λc =>
 W c
  (Y (zF (zF a)))
  (Y (zG (ql (a+1)))))
  (Y (zF (zG ())))
def mP s1 f x s:=zJ (c8 s1 f x) s
def yG(a:qc)(c:vn->T Bool):T Int :=
 I (mP a c (a.length:Int) 0) <|
 zK (λ_ =>
 Y (-1))
  (λb =>
 Y b)
def uC(b:qc)(c:vn->T Bool):T Bool :=
 I (yG b c) λa =>
 Y (zA (0<=a))
def W5(h:zr)(b:wE)(i:Int):(Int×Rat×Rat)->T ((Int×Rat×Rat)⊕((Rat×Rat)))
 | (a,c,d) =>
 W (zA (a<i))
  (oI a b <|
 I (mg h (nth b a (zb qk)).1) λe =>
 I (pG ((nth b a (zb qk)).2.1.1,((nth b a (zb qk)).2.1.2.1,((nth b a (zb qk)).2.1.2.2.1,()))) e) λf =>
 I (pF d f) λg =>
 Y (zG ((ql (a+1)),(c,g))))
  (Y (zF (c,d)))
def Jo val1 x x1 s:=zJ (W5 val1 x x1) s
def Cy(a:vO)(d:zr):T Rat :=
 I (vJ a.2.2.1) λb =>
 I (Jo d a.2.1 (a.2.1.length:Int) (0,((false,(([]:List Int),(([]:List Int),()))),b))) λ(e,c) =>
 Y c
def tn(c:vO)(d:zr):T Bool :=
 I (Cy c d) λa =>
 I (lA a) λb =>
 Y b
def yx(f:wE)(l:Int):(Int×Int×Int×(zw×Unit)×z7×z7)->T ((Int×Int×Int×(zw×Unit)×z7×z7)⊕((Int×(zw×Unit)×z7×z7)))
 | (i,j,a,k,d,e) =>
 W (zA (a<l))
  (oI a f <|
 oC d <|
 oC e <|
 R d <|
 R e <|
 I (jT (nth f a (zb qk)).1 (k.1,()) d e) λ(g,h,b,c) =>
 .zl (wfI (nth f a (zb qk)).1) <|
 W ((!false)&&(zA (j<g)))
  (oC b <|
 oC c <|
 R b <|
 R c <|
 Y (zG ((nth f a (zb qk)).1,(g,((ql (a+1)),((h.1,()),(b,c)))))))
  (oC b <|
 oC c <|
 R b <|
 R c <|
 Y (zG (i,(j,((ql (a+1)),((h.1,()),(b,c))))))))
  (oC d <|
 oC e <|
 R d <|
 R e <|
 Y (zF (i,((k.1,()),(d,e)))))
def dh x x1 s:=zJ (yx x x1) s
def bn(b:Int)(a:(zw×Unit))(e:z7)(f:z7):T (Int×(zw×Unit)×z7×z7) :=
 oI b a.1 <|
 oI b a.1 <|
 oC e <|
 oC f <|
 R e <|
 R f <|
 I (dh (nth a.1 b (zb zp)).2.1 (zN (zO (nth a.1 b (zb zp)).2.1):Int) ((-1),((nth a.1 b (zb zp)).1,(0,((a.1,()),(e,f)))))) λ(g,h,c,d) =>
 oC c <|
 oC d <|
 R c <|
 R d <|
 Y (g,((h.1,()),(c,d)))
def mY(d:zw)(i:z7)(j:Int)(b:Int):T Bool :=
 I (bM d i j) <|
 zK (λ(e,f,a,c) =>
 W e
  (W (zA (0<=b))
  (W (zA (b<(d.length:Int)))
  (oI b a <|
 .zl (uT a.length a.length (0+(zE b)) a.length) <|
 W ((wo a (0+(zE b)) (zb (.int .i64)))==(-1))
  (oC a <|
 oC c <|
 R a <|
 R c <|
 I (bn b (f.1,()) a c) λ(g,k,l,m) =>
 Y (g==(-1)))
  (Y false))
  (Y false))
  (Y false))
  (Y false))
  (λh =>
 W h
  (W (zA (0<=b))
  (W (zA (b<(d.length:Int)))
  (.fail)
  (Y false))
  (Y false))
  (Y false))
def bF(g:Int)(m:zr)(j:(q9×qh×xc×qp×qz×qs×Unit))(a:zw)(b:z7)(e:z7):T (Bool×(q9×qh×xc×qp×qz×qs×Unit)×zw×z7×z7) :=
 let k:=(j.1,(j.2.1,(j.2.2.1,(j.2.2.2.1,(j.2.2.2.2.1,(j.2.2.2.2.2.1,())))))); let h:=wo a (0+(zE g)) (zb zp);  oI g a <|
 .zl (uT a.length a.length (0+(zE g)) a.length) <|
 oI g b <|
 .zl (uT b.length b.length (0+(zE g)) b.length) <|
 W ((wo b (0+(zE g)) (zb (.int .i64))) != (-1))
  (I (tn h m) λo =>
 oC a <|
 oC b <|
 oC e <|
 R a <|
 R b <|
 R e <|
 Y (o,(k,(a,(b,e)))))
  (I (W ((h.2.1.length:Int)==0)
  (I (lA (h.2.2.1.1,(h.2.2.1.2.1,(h.2.2.1.2.2.1,())))) λp =>
 oC a <|
 oC b <|
 oC e <|
 R a <|
 R b <|
 R e <|
 Y (p,(k,(a,(b,(e,h))))))
  (oC a <|
 oC b <|
 oC e <|
 R a <|
 R b <|
 R e <|
 Y (false,(k,(a,(b,(e,h)))))):T ((Bool×(q9×qh×xc×qp×qz×qs×Unit)×zw×z7×z7×vO))) λ(q,i,c,d,f,r)=>let n:=mY (zH 0 (zI (0+c.length) c)) (zH 0 (zI (0+d.length) d)) (m.length:Int) g; let l:=((i.1,(i.2.1,(i.2.2.1,(i.2.2.2.1,(i.2.2.2.2.1,(i.2.2.2.2.2.1,())))))),(c,(d,f)));
 W (r.1 != 0)
  (R c <|
 R d <|
 I n λs =>
 oC c <|
 oC d <|
 oC f <|
 R c <|
 R d <|
 R f <|
 Y (s,l))
  (W q
  (R c <|
 R d <|
 I n λt =>
 oC c <|
 oC d <|
 oC f <|
 R c <|
 R d <|
 R f <|
 Y (t,l))
  (oC c <|
 oC d <|
 oC f <|
 R c <|
 R d <|
 R f <|
 Y (false,l))))
def Jv(p:we)(k:z7)(o:Int):(Int×(q9×qh×xc×qp×qz×qs×Unit)×zw×z7×z7)->T ((Int×(q9×qh×xc×qp×qz×qs×Unit)×zw×z7×z7)⊕(((q9×qh×xc×qp×qz×qs×Unit)×zw×z7×z7)⊕(Bool×(q9×qh×xc×qp×qz×qs×Unit)×zw×z7×z7)))
 | (i,e,b,c,a)=>let j:=((e.1,(e.2.1,(e.2.2.1,(e.2.2.2.1,(e.2.2.2.2.1,(e.2.2.2.2.2.1,())))))),(b,(c,a)));
 W (zA (i<o))
  (oI i k <|
 I (W ((nth k i (zb (.int .i64))) != (-1))
  (R a <|
 I (jy (zH 0 (zI (0+a.length) a)) i) λm =>
 oC b <|
 oC c <|
 oC a <|
 R b <|
 R c <|
 R a <|
 Y ((!m),j))
  (oC b <|
 oC c <|
 oC a <|
 R b <|
 R c <|
 R a <|
 Y (false,j)):T ((Bool×(q9×qh×xc×qp×qz×qs×Unit)×zw×z7×z7))) λ(n,d,f,g,h)=>let l:=((d.1,(d.2.1,(d.2.2.1,(d.2.2.2.1,(d.2.2.2.2.1,(d.2.2.2.2.2.1,())))))),(f,(g,h)));
 W n
  (oC f <|
 oC g <|
 oC h <|
 R f <|
 R g <|
 R h <|
 Y (zF (zF (false,l))))
  (oC f <|
 oC g <|
 oC h <|
 R f <|
 R g <|
 R h <|
 Y (zG ((ql (i+1)),l))))
  (oC b <|
 oC c <|
 oC a <|
 R b <|
 R c <|
 R a <|
 Y (zF (zG j)))
def Bm d1 x x1 s:=zJ (Jv d1 x x1) s
def Jw(m:we)(n:Int):(Int×(q9×qh×xc×qp×qz×qs×Unit)×zw×z7×z7)->T ((Int×(q9×qh×xc×qp×qz×qs×Unit)×zw×z7×z7)⊕(((q9×qh×xc×qp×qz×qs×Unit)×zw×z7×z7)⊕(Bool×(q9×qh×xc×qp×qz×qs×Unit)×zw×z7×z7)))
 | (i,b,c,d,e)=>let j:=(b.1,(b.2.1,(b.2.2.1,(b.2.2.2.1,(b.2.2.2.2.1,(b.2.2.2.2.2.1,()))))));
 W (zA (i<n))
  (oC c <|
 oC d <|
 oC e <|
 R c <|
 R d <|
 R e <|
 I (bF i m.2.2.1 j c d e) λ(l,a,f,g,h)=>let k:=((a.1,(a.2.1,(a.2.2.1,(a.2.2.2.1,(a.2.2.2.2.1,(a.2.2.2.2.2.1,())))))),(f,(g,h)));
 W (!l)
  (oC f <|
 oC g <|
 oC h <|
 R f <|
 R g <|
 R h <|
 Y (zF (zF (false,k))))
  (oC f <|
 oC g <|
 oC h <|
 R f <|
 R g <|
 R h <|
 Y (zG ((ql (i+1)),k))))
  (oC c <|
 oC d <|
 oC e <|
 R c <|
 R d <|
 R e <|
 Y (zF (zG (j,(c,(d,e))))))
def Bn d2 x5 s:=zJ (Jw d2 x5) s
def Xe(t:Form)(a:we):T Bool :=
 I (dC t a) <|
 zK (λ(k,d,g,h,i) =>
 W (k != 0)
  (Y false)
  (I (vB a.2.2.1 (λb=>fN b)) λl =>
 W l
  (Y false)
  (I (uC a.2.2.2.2.1 (λb=>fO b)) λm =>
 W m
  (Y false)
  (oC g <|
 oC h <|
 oC i <|
 R g <|
 R h <|
 R i <|
 I (Bm a a.2.2.2.1 (a.2.2.2.1.length:Int) (0,((d.1,(d.2.1,(d.2.2.1,(d.2.2.2.1,(d.2.2.2.2.1,(d.2.2.2.2.2.1,())))))),(g,(h,i))))) <|
 zK (λ(e,c,f,j) =>
 R c <|
 R f <|
 I (Z9 (zH 0 (zI (0+c.length) c)) (zH 0 (zI (0+f.length) f)) (a.2.2.1.length:Int)) λn =>
 W (!n)
  (Y false)
  (oC c <|
 oC f <|
 oC j <|
 R c <|
 R f <|
 R j <|
 I (Bn a (c.length:Int) (0,((e.1,(e.2.1,(e.2.2.1,(e.2.2.2.1,(e.2.2.2.2.1,(e.2.2.2.2.2.1,())))))),(c,(f,j))))) <|
 zK (λ(u,v,w,x) =>
 Y true)
  (λ(o,y,z,A,hl) =>
 Y o)))
  (λ(p,C,D,κ',G) =>
 Y p)))))
  (λ(H,q) =>
 W (q != 0)
  (Y false)
  (I (vB a.2.2.1 (λb=>fN b)) λr =>
 W r
  (Y false)
  (I (uC a.2.2.2.2.1 (λb=>fO b)) λs =>
 W s
  (Y false)
  (.fail))))
def Ug(s:Form)(h:we)(t:zo)(x:Rat):T (we×zt×Int) :=
 I (Zd s t) λf =>
 I (Xe s h) λy =>
 W (!y)
  (Y ((([]:List Rat),(([]:List Bool),(([]:List Rat),(([]:List Int),(([]:List vn),(([]:List Bool),())))))),([],1)))
  (W (zA (f<0))
  (Y ((([]:List Rat),(([]:List Bool),(([]:List Rat),(([]:List Int),(([]:List vn),(([]:List Bool),())))))),([],5)))
  (I (cB x) λz =>
 W (!z)
  (Y ((([]:List Rat),(([]:List Bool),(([]:List Rat),(([]:List Int),(([]:List vn),(([]:List Bool),())))))),([t],8)))
  (I (dC s h) <|
 zK (λ(g,d,i,j,k) =>
 W (g != 0)
  (Y ((([]:List Rat),(([]:List Bool),(([]:List Rat),(([]:List Int),(([]:List vn),(([]:List Bool),())))))),([],g)))
  (oC i <|
 oC j <|
 oC k <|
 R i <|
 R j <|
 R k <|
 I (y7 f x (-1) (d.1,(d.2.1,(d.2.2.1,(d.2.2.2.1,(d.2.2.2.2.1,(d.2.2.2.2.2.1,())))))) i j k) λ(e,l,m,n) =>
 R l <|
 R m <|
 R n <|
 I (ke h.2.2.1 ((e.1,(e.2.1,(e.2.2.1,(e.2.2.2.1,(e.2.2.2.2.1,(e.2.2.2.2.2.1,())))))),((zH 0 (zI (0+l.length) l)),((zH 0 (zI (0+m.length) m)),((zH 0 (zI (0+n.length) n)),()))))) λ(A,hl,u,a)=>let b:=ql ((a.2.1.length:Int)-1);
 W (u != 0)
  (Y ((([]:List Rat),(([]:List Bool),(([]:List Rat),(([]:List Int),(([]:List vn),(([]:List Bool),())))))),(hl,u)))
  (oI b a.2.2.1 <|
 W ((nth a.2.2.1 b (zb (.int .i64)))==(-1:Int))
  (Y ((([]:List Rat),(([]:List Bool),(([]:List Rat),(([]:List Int),(([]:List vn),(([]:List Bool),())))))),([t],11)))
  (.zl (jJ 0 b a.2.1.length) <|
 .zl (jJ 0 b a.2.2.1.length) <|
 .zl (jJ 0 b a.2.2.2.1.length) <|
 I (ke A ((a.1.1,(a.1.2.1,(a.1.2.2.1,(a.1.2.2.2.1,(a.1.2.2.2.2.1,(a.1.2.2.2.2.2.1,())))))),((jS (e:=zp) 0 b a.2.1),((jS (e:=(.int .i64)) 0 b a.2.2.1),((jS (e:=(.int .i64)) 0 b a.2.2.2.1),()))))) λ(C,D,v,κ') =>
 W (v != 0)
  (Y ((([]:List Rat),(([]:List Bool),(([]:List Rat),(([]:List Int),(([]:List vn),(([]:List Bool),())))))),(D,v)))
  (I (gR h C κ') λ(G,zC,o,p,q,r,c) =>
 oI f c <|
 .zl (uT c.length c.length (0+(zE f)) c.length) <|
 R o <|
 R p <|
 R q <|
 R r <|
 R c <|
 Y (((zH 0 (zI (0+o.length) o)),((zH 0 (zI (0+p.length) p)),(G.1,((zH 0 (zI (0+q.length) q)),((zH 0 (zI (0+r.length) r)),((zH 0 (zI (0+c.length) (zL c (0+(zE f)) true))),())))))),([],0)))))))
  (λ(H,w) =>
 W (w != 0)
  (Y ((([]:List Rat),(([]:List Bool),(([]:List Rat),(([]:List Int),(([]:List vn),(([]:List Bool),())))))),(H,w)))
  (.fail)))))
def Ze(e:Rat->T zo)(d:zr)(f:Int):(zo×Int)->T ((zo×Int)⊕zo)
 | (c,a) =>
 W (zA (a<f))
  (oI a d <|
 I (e (nth d a (zb zm))) λb =>
 oK [32] b <|
 oK c (cat [32] b) <|
 Y (zG ((cat c (cat [32] b)),(ql (a+1)))))
  (Y (zF c))
def Jz text x x1 s:=zJ (Ze text x x1) s
def nh(c:zo)(b:zr)(d:Rat->T zo):T zo :=
 I (Jz d b (b.length:Int) (c,0)) λa =>
 oK a [10] <|
 Y (cat a [10])
def fQ(a:Bool):T zo :=
 W a
  (Y [49])
  (Y [48])
def tf(e:Bool->T zo)(d:zn)(f:Int):(zo×Int)->T ((zo×Int)⊕zo)
 | (c,a) =>
 W (zA (a<f))
  (oI a d <|
 I (e (nth d a (zb .bool))) λb =>
 oK [32] b <|
 oK c (cat [32] b) <|
 Y (zG ((cat c (cat [32] b)),(ql (a+1)))))
  (Y (zF c))
def Ul text x x1 s:=zJ (tf text x x1) s
def iM(c:zo)(b:zn)(d:Bool->T zo):T zo :=
 I (Ul d b (b.length:Int) (c,0)) λa =>
 oK a [10] <|
 Y (cat a [10])
def mz(a:Int):T zo :=
 W (zA (a<0))
  (Y [45])
  (I (strconv_Itoa a) λb =>
 Y b)
def Zf(e:Int->T zo)(d:z7)(f:Int):(zo×Int)->T ((zo×Int)⊕zo)
 | (c,a) =>
 W (zA (a<f))
  (oI a d <|
 I (e (nth d a (zb (.int .i64)))) λb =>
 oK [32] b <|
 oK c (cat [32] b) <|
 Y (zG ((cat c (cat [32] b)),(ql (a+1)))))
  (Y (zF c))
def JA text x x1 s:=zJ (Zf text x x1) s
def tS(c:zo)(b:z7)(d:Int->T zo):T zo :=
 I (JA d b (b.length:Int) (c,0)) λa =>
 oK a [10] <|
 Y (cat a [10])
def mA(a:vn):T zo :=
 W (!a.1)
  (Y [45])
  (W a.2.1
  (I (gL a.2.2.1) λb =>
 oK b [33] <|
 Y (cat b [33]))
  (I (gL a.2.2.1) λc =>
 Y c))
def nB(e:vn->T zo)(d:qc)(f:Int):(zo×Int)->T ((zo×Int)⊕zo)
 | (c,a) =>
 W (zA (a<f))
  (oI a d <|
 I (e (nth d a (zb zx))) λb =>
 oK [32] b <|
 oK c (cat [32] b) <|
 Y (zG ((cat c (cat [32] b)),(ql (a+1)))))
  (Y (zF c))
def Xi text x x1 s:=zJ (nB text x x1) s
def iN(c:zo)(b:qc)(d:vn->T zo):T zo :=
 I (Xi d b (b.length:Int) (c,0)) λa =>
 oK a [10] <|
 Y (cat a [10])
def fP(b:we):T zo :=
 I (nh [112,97,114,97,109,115] b.1 (λa=>gL a)) λc =>
 I (iM [111,110] b.2.1 (λa=>fQ a)) λd =>
 oK c d <|
 I (nh [118,97,108,115] b.2.2.1 (λa=>gL a)) λg =>
 oK (cat c d) g <|
 I (tS [111,117,116,115] b.2.2.2.1 (λa=>mz a)) λi=>let f:=cat (cat (cat c d) g) i;
 oK (cat (cat c d) g) i <|
 I (iN [112,105,110,115] b.2.2.2.2.1 (λa=>mA a)) λe =>
 oK f e <|
 I (iM [102,105,108,108,101,100] b.2.2.2.2.2.1 (λa=>fQ a)) λh =>
 oK (cat f e) h <|
 oK (cat (cat f e) h) [101,110,100,10] <|
 Y (cat (cat (cat f e) h) [101,110,100,10])
def wU(a:zt):T zt :=
 .zl (a=[]->∀ r,T.leads (.zl (ub 0 0 0 0 0 a.length 16) <|
 .zl (zu (0+a.length) 0 (0+a.length) a.length) <|
 .zl ((0+a.length)=a.length) <|
 Y a:T _) r->T.leads (.zl (zu 0 0 0 0) <|
 .zl (0=0) <|
 Y []:T _) r) <|
 .zl (ub 0 0 0 0 0 a.length 16) <|
 oM (0+a.length) a.length <|
 Y a
def Wf(d:fU)(e:zo):T fU :=
 I (wU d.1) λc=>let a:=c.length+1; let b:=lU 0 (ql ((zN a:Int)-32));
 oA c 16 <|
 .zl (jJ b (zN a:Int) a) <|
 .zl (a=a) <|
 Y ((zH (0+(zE b)) (zI ((0+(zE b))+((zE (zN a:Int))-(zE b))) (c++[e]))),(([]:List zo),()))
def vA(b:we)(h:zt)(d:Int)(a:zk):T (Answer×zk) :=
 let e:=(a.1.1,(a.1.2.1,(a.1.2.2.1,(a.1.2.2.2.1,(a.1.2.2.2.2.1,(a.1.2.2.2.2.2.1,()))))));  W (d != 0)
  (Y ((d,(h,([],()))),a))
  (I (fP (a.2.1.1,(a.2.1.2.1,(a.2.1.2.2.1,(a.2.1.2.2.2.1,(a.2.1.2.2.2.2.1,(a.2.1.2.2.2.2.2.1,()))))))) λf =>
 I (Wf (a.2.2.1.1,(a.2.2.1.2.1,())) f) λc =>
 I (Zr e b.2.1 a.2.2.2.1) λg =>
 Y (((0:Int),(([]:List zo),([],()))),(e,((b.1,(b.2.1,(b.2.2.1,(b.2.2.2.1,(b.2.2.2.2.1,(b.2.2.2.2.2.1,())))))),((c.1,(c.2.1,())),(g,(a.2.2.2.2.1,())))))))
def ZU(w:Form)(c:we)(C:zo)(i:Bool):T (we×zt×Int) :=
 I (Zd w C) λa =>
 I (Xe w c) λy =>
 W (!y)
  (Y ((([]:List Rat),(([]:List Bool),(([]:List Rat),(([]:List Int),(([]:List vn),(([]:List Bool),())))))),([],1)))
  (W (zA (a<0))
  (Y ((([]:List Rat),(([]:List Bool),(([]:List Rat),(([]:List Int),(([]:List vn),(([]:List Bool),())))))),([],5)))
  (.zl ((i=true)->(xb a c.2.2.2.2.1.length)) <|
 W (i&&(nth c.2.2.2.2.1 a (zb zx)).1)
  (Y ((([]:List Rat),(([]:List Bool),(([]:List Rat),(([]:List Int),(([]:List vn),(([]:List Bool),())))))),([],1)))
  (.zl (((!i)=true)->(xb a c.2.2.2.2.1.length)) <|
 W ((!i)&&(!(nth c.2.2.2.2.1 a (zb zx)).1))
  (Y ((([]:List Rat),(([]:List Bool),(([]:List Rat),(([]:List Int),(([]:List vn),(([]:List Bool),())))))),([],12)))
  (I (mv c) λ(D,d,e,f,g,b,h) =>
 I (gz 0) λk=>let j:=zL b (0+(zE a)) (false,(false,((k.1,(k.2.1,(k.2.2.1,()))),()))); let x:=zL j (0+(zE a)) (true,(false,(((nth c.2.2.1 a (zb zm)).1,((nth c.2.2.1 a (zb zm)).2.1,((nth c.2.2.1 a (zb zm)).2.2.1,()))),())));
 oI a b <|
 .zl (uT b.length b.length (0+(zE a)) b.length) <|
 I (W i
  (oI a c.2.2.1 <|
 oI a b <|
 .zl (uT b.length b.length (0+(zE a)) j.length) <|
 R d <|
 R e <|
 R f <|
 R g <|
 .zl (b.length=x.length) <|
 R h <|
 oC d <|
 oC e <|
 oC f <|
 oC g <|
 .zl (zu b.length 0 b.length x.length) <|
 oC h <|
 Y ((([]:List Rat),(([]:List Bool),(([]:List Rat),(([]:List Int),(([]:List vn),(([]:List Bool),())))))),(d,(e,(f,(g,(x,(h,()))))))))
  (R d <|
 R e <|
 R f <|
 R g <|
 .zl (b.length=j.length) <|
 R h <|
 oC d <|
 oC e <|
 oC f <|
 oC g <|
 .zl (zu b.length 0 b.length j.length) <|
 oC h <|
 Y ((([]:List Rat),(([]:List Bool),(([]:List Rat),(([]:List Int),(([]:List vn),(([]:List Bool),())))))),(d,(e,(f,(g,(j,(h,())))))))):T ((we×zr×zn×zr×z7×qc×zn×Unit))) λ(κ',l,m,n,o,p,q,G) =>
 oW l m n o p q <|
 I (en w ((zH 0 (zI (0+l.length) l)),((zH 0 (zI (0+m.length) m)),((zH 0 (zI (0+n.length) n)),((zH 0 (zI (0+o.length) o)),((zH 0 (zI (0+p.length) p)),((zH 0 (zI (0+q.length) q)),()))))))) λ(z,A,hl,r,s,t,u,v) =>
 R r <|
 R s <|
 R t <|
 R u <|
 R v <|
 Y (((zH 0 (zI (0+r.length) r)),((zH 0 (zI (0+s.length) s)),(z.1,((zH 0 (zI (0+t.length) t)),((zH 0 (zI (0+u.length) u)),((zH 0 (zI (0+v.length) v)),())))))),(A,hl))))))
def gM(a:Param)(b:zo):T Bool :=
 Y (xw a.1 b)
def mw(k:Int):(Int×z7×(zr×zn×zr×qc×zn×Unit)×zw×z7×Unit×(q9×qh×xc×qp×qz×qs×Unit)×z7)->T ((Int×z7×(zr×zn×zr×qc×zn×Unit)×zw×z7×Unit×(q9×qh×xc×qp×qz×qs×Unit)×z7)⊕((z7×(zr×zn×zr×qc×zn×Unit)×zw×z7×Unit×(q9×qh×xc×qp×qz×qs×Unit)×z7)))
 | (g,b,c,e,a,l,f,d)=>let j:=(f.1,(f.2.1,(f.2.2.1,(f.2.2.2.1,(f.2.2.2.2.1,(f.2.2.2.2.2.1,())))))); let h:=wo a (0+(zE g)) (zb (.int .i64)); let i:=d++([(wo b (0+(zE h)) (zb (.int .i64)))]:List Int);
 W (zA (g<k))
  (oI g a <|
 .zl (uT a.length a.length (0+(zE g)) a.length) <|
 oI h b <|
 .zl (uT b.length b.length (0+(zE h)) b.length) <|
 oA d 8 <|
 oC a <|
 R b <|
 oC b <|
 R e <|
 R a <|
 oC e <|
 .zl (zu (d.length+1) 0 (d.length+1) i.length) <|
 oC a <|
 .zl ((d.length+1)=i.length) <|
 Y (zG ((ql (g+1)),(b,((c.1,(c.2.1,(c.2.2.1,(c.2.2.2.1,(c.2.2.2.2.1,()))))),(e,(a,((),(j,i)))))))))
  (R b <|
 oC b <|
 R e <|
 R a <|
 oC e <|
 oC d <|
 oC a <|
 R d <|
 Y (zF (b,((c.1,(c.2.1,(c.2.2.1,(c.2.2.2.1,(c.2.2.2.2.1,()))))),(e,(a,((),(j,d))))))))
def Zb x s:=zJ (mw x) s
def my(m:qc)(p:Int):(Int×z7×(zr×zn×zr×qc×zn×Unit)×zw×z7×Unit×(q9×qh×xc×qp×qz×qs×Unit)×z7)->T ((Int×z7×(zr×zn×zr×qc×zn×Unit)×zw×z7×Unit×(q9×qh×xc×qp×qz×qs×Unit)×z7)⊕((z7×(zr×zn×zr×qc×zn×Unit)×zw×z7×Unit×(q9×qh×xc×qp×qz×qs×Unit)×z7)))
 | (f,b,a,c,d,q,h,e)=>let n:=(h.1,(h.2.1,(h.2.2.1,(h.2.2.2.1,(h.2.2.2.2.1,(h.2.2.2.2.2.1,())))))); let i:=nth m f (zb zx); let o:=(b,((a.1,(a.2.1,(a.2.2.1,(a.2.2.2.1,(a.2.2.2.2.1,()))))),(c,(d,((),(n,e))))));
 W (zA (f<p))
  (oI f m <|
 W (!i.1)
  (R b <|
 oC b <|
 R c <|
 R d <|
 oC c <|
 oC e <|
 oC d <|
 R e <|
 Y (zG ((ql (f+1)),o)))
  (oC c <|
 oC e <|
 oC d <|
 R c <|
 R e <|
 R d <|
 I (y7 f (i.2.2.1.1,(i.2.2.1.2.1,(i.2.2.1.2.2.1,()))) (bif i.2.1 then f else(-1)) n c e d) λ(g,j,k,l) =>
 R b <|
 oC b <|
 R j <|
 R l <|
 oC j <|
 oC k <|
 oC l <|
 R k <|
 Y (zG ((ql (f+1)),(b,((a.1,(a.2.1,(a.2.2.1,(a.2.2.2.1,(a.2.2.2.2.1,()))))),(j,(l,((),((g.1,(g.2.1,(g.2.2.1,(g.2.2.2.1,(g.2.2.2.2.1,(g.2.2.2.2.2.1,())))))),k))))))))))
  (R b <|
 oC b <|
 R c <|
 R d <|
 oC c <|
 oC e <|
 oC d <|
 R e <|
 Y (zF o))
def Zc x2 x3 s:=zJ (my x2 x3) s
def eT(c:Form)(a:(zr×zn×zr×qc×zn×Unit))(b:z7):T ((Int×z7×(q9×qh×xc×qp×qz×qs×Unit)×zw×z7×z7)⊕(zt×Int×z7)) :=
 R b <|
 I (Xh c (a.1,(a.2.1,(a.2.2.1,((zH 0 (zI (0+b.length) b)),(a.2.2.2.1,(a.2.2.2.2.1,()))))))) λs =>
 W (!s)
  (R b <|
 Y (zF ([],(1,b))))
  (I (nC c a.1 a.2.1) λ(t,q,h,i,g) =>
 W ((h != 0)&&(!(xw q [])))
  (R b <|
 Y (zF ([q],(h,b))))
  (W (h != 0)
  (R b <|
 Y (zF ([],(h,b))))
  (oC g <|
 R b <|
 oC b <|
 R i <|
 R g <|
 oC i <|
 .zl (zu 0 0 0 0) <|
 oC g <|
 .zl (0=0) <|
 I (Zb (g.length:Int) (0,(b,((a.1,(a.2.1,(a.2.2.1,(a.2.2.2.1,(a.2.2.2.2.1,()))))),(i,(g,((),((c.1,(c.2.1,(c.2.2.1,(c.2.2.2.1,(c.2.2.2.2.1,(c.2.2.2.2.2.1,())))))),[])))))))) λ(j,d,k,l,u,e,m) =>
 R j <|
 oC j <|
 R k <|
 R l <|
 oC k <|
 oC m <|
 oC l <|
 R m <|
 I (Zc d.2.2.2.1 (d.2.2.2.1.length:Int) (0,(j,((d.1,(d.2.1,(d.2.2.1,(d.2.2.2.1,(d.2.2.2.2.1,()))))),(k,(l,((),((e.1,(e.2.1,(e.2.2.1,(e.2.2.2.1,(e.2.2.2.2.1,(e.2.2.2.2.2.1,())))))),m)))))))) λ(r,v,n,o,w,f,p) =>
 R r <|
 oC n <|
 oC p <|
 oC o <|
 R n <|
 R p <|
 R o <|
 Y (zG (0,(r,((f.1,(f.2.1,(f.2.2.1,(f.2.2.2.1,(f.2.2.2.2.1,(f.2.2.2.2.2.1,())))))),(n,(p,o)))))))))
def gG(b:z7)(c:z7)(d:Int):Int->T (Int⊕(Unit⊕Bool))
 | a =>
 W (zA (a<d))
  (oI a b <|
 oI a c <|
 W ((nth b a (zb (.int .u32))) != (nth c a (zb (.int .u32))))
  (Y (zF (zF false)))
  (Y (zG (ql (a+1)))))
  (Y (zF (zG ())))
def eK s11 s21 x s:=zJ (gG s11 s21 x) s
def jA(a:z7)(b:z7):T Bool :=
 W ((a.length:Int) != (b.length:Int))
  (Y false)
  (I (eK a b (a.length:Int) 0) <|
 zK (λ_ =>
 Y true)
  (λc =>
 Y c))
def XI(e:Rat)(f:Rat):T Bool :=
 I (vJ e) λa =>
 I (vJ f) λb =>
 W (a.1==b.1)
  (I (jA a.2.1 b.2.1) λc =>
 W c
  (I (jA a.2.2.1 b.2.2.1) λd =>
 Y d)
  (Y false))
  (Y false)
def nt(a:Term)(b:Term):T Bool :=
 W (a.1==b.1)
  (I (XI a.2.1 b.2.1) λc =>
 Y c)
  (Y false)
def uZ(b:wE)(e:Term->Term->T Bool)(c:wE)(f:Int):Int->T (Int⊕(Unit⊕Bool))
 | a =>
 W (zA (a<f))
  (oI a c <|
 oI a b <|
 I (e (nth c a (zb qk)) (nth b a (zb qk))) λd =>
 W (!d)
  (Y (zF (zF false)))
  (Y (zG (ql (a+1)))))
  (Y (zF (zG ())))
def yP s21 eq x x1 s:=zJ (uZ s21 eq x x1) s
def jz(a:wE)(b:wE)(d:Term->Term->T Bool):T Bool :=
 W ((a.length:Int) != (b.length:Int))
  (Y false)
  (I (yP b d a (a.length:Int) 0) <|
 zK (λ_ =>
 Y true)
  (λc =>
 Y c))
def U5(a:vO)(b:vO):T Bool :=
 W (a.1==b.1)
  (I (XI a.2.2.1 b.2.2.1) λc =>
 W c
  (I (jz a.2.1 b.2.1 (λz0 z1=>nt z0 z1)) λd =>
 Y d)
  (Y false))
  (Y false)
def oi(G:Form)(κ':Int):(Int×z7×(zr×zn×zr×qc×zn×Unit)×we×(q9×qh×xc×qp×qz×qs×Unit)×zw×z7×z7×(q9×qh×xc×qp×qz×qs×Unit)×zw×z7×z7)->T ((Int×z7×(zr×zn×zr×qc×zn×Unit)×we×(q9×qh×xc×qp×qz×qs×Unit)×zw×z7×z7×(q9×qh×xc×qp×qz×qs×Unit)×zw×z7×z7)⊕((z7×(zr×zn×zr×qc×zn×Unit)×we×(q9×qh×xc×qp×qz×qs×Unit)×zw×z7×z7×(q9×qh×xc×qp×qz×qs×Unit)×zw×z7×z7)))
 | (i,f,u,D,l,a,g,c,m,b,h,d)=>let x:=(f,((u.1,(u.2.1,(u.2.2.1,(u.2.2.2.1,(u.2.2.2.2.1,()))))),(D,((l.1,(l.2.1,(l.2.2.1,(l.2.2.2.1,(l.2.2.2.2.1,(l.2.2.2.2.2.1,())))))),(a,(g,(c,((m.1,(m.2.1,(m.2.2.1,(m.2.2.2.1,(m.2.2.2.2.1,(m.2.2.2.2.2.1,())))))),(b,(h,d))))))))));
 W (zA (i<κ'))
  (R c <|
 I (uM (zH 0 (zI (0+c.length) c)) i) λv =>
 R d <|
 I (uM (zH 0 (zI (0+d.length) d)) i) λw =>
 I (W (zA (v<0))
  (R f <|
 oC f <|
 oC a <|
 oC g <|
 oC c <|
 R a <|
 R g <|
 R c <|
 oC b <|
 oC h <|
 oC d <|
 R b <|
 R h <|
 R d <|
 Y (true,x))
  (W (zA (w<0))
  (R f <|
 oC f <|
 oC a <|
 oC g <|
 oC c <|
 R a <|
 R g <|
 R c <|
 oC b <|
 oC h <|
 oC d <|
 R b <|
 R h <|
 R d <|
 Y (true,x))
  (oI v a <|
 .zl (uT a.length a.length (0+(zE v)) a.length) <|
 oI w b <|
 .zl (uT b.length b.length (0+(zE w)) b.length) <|
 I (U5 (wo a (0+(zE v)) (zb zp)) (wo b (0+(zE w)) (zb zp))) λA =>
 R f <|
 oC f <|
 oC a <|
 oC g <|
 oC c <|
 R a <|
 R g <|
 R c <|
 oC b <|
 oC h <|
 oC d <|
 R b <|
 R h <|
 R d <|
 Y ((!A),x))):T ((Bool×z7×(zr×zn×zr×qc×zn×Unit)×we×(q9×qh×xc×qp×qz×qs×Unit)×zw×z7×z7×(q9×qh×xc×qp×qz×qs×Unit)×zw×z7×z7))) λ(hl,e,n,C,j,o,p,q,k,r,s,t)=>let y:=zL e (0+(zE i)) (-1); let z:=((n.1,(n.2.1,(n.2.2.1,(n.2.2.2.1,(n.2.2.2.2.1,()))))),(C,((j.1,(j.2.1,(j.2.2.1,(j.2.2.2.1,(j.2.2.2.2.1,(j.2.2.2.2.2.1,())))))),(o,(p,(q,((k.1,(k.2.1,(k.2.2.1,(k.2.2.2.1,(k.2.2.2.2.1,(k.2.2.2.2.2.1,())))))),(r,(s,t)))))))));
 W hl
  (oI i e <|
 .zl (uT e.length e.length (0+(zE i)) e.length) <|
 .zl (e.length=y.length) <|
 .zl (zu e.length 0 e.length y.length) <|
 oC o <|
 oC p <|
 oC q <|
 R o <|
 R p <|
 R q <|
 oC r <|
 oC s <|
 oC t <|
 R r <|
 R s <|
 R t <|
 Y (zG ((ql (i+1)),(y,z))))
  (R e <|
 oC e <|
 oC o <|
 oC p <|
 oC q <|
 R o <|
 R p <|
 R q <|
 oC r <|
 oC s <|
 oC t <|
 R r <|
 R s <|
 R t <|
 Y (zG ((ql (i+1)),(e,z)))))
  (R f <|
 oC f <|
 oC a <|
 oC g <|
 oC c <|
 R a <|
 R g <|
 R c <|
 oC b <|
 oC h <|
 oC d <|
 R b <|
 R h <|
 R d <|
 Y (zF x))
def QH f1 x1 s:=zJ (oi f1 x1) s
end Go.AM.Lf
