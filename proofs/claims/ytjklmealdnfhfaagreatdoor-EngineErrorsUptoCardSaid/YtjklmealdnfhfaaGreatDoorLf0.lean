/-
  The program's functions as trees in plain Lean, part 0: printed by a program of ours.
-/
import Derived.Test.YtjklmealdnfhfaaGreatDoorAmA
set_option linter.unusedVariables false
open Decidable renaming decide -> zA
open Go.AM.T renaming ret -> Y, bind -> X, ite -> V, loop -> zJ
open Int renaming toNat -> zE, tmod -> zP, tdiv -> zQ
open Sum renaming inr -> zF, inl -> zG, elim -> zK
open List renaming drop -> zH, take -> zI, set -> zL, replicate -> zM, length -> zO
open Nat renaming cast -> zN
noncomputable section
namespace Go.AM.Lf
abbrev ju:Ty:=(.cons .str .nil)
abbrev gB:=den ju
abbrev o8:Ty:=(.cons .str (.cons (.int .u64) .nil))
abbrev Gi:=den o8
abbrev qq:Ty:=(.cons .str (.cons .bool .nil))
abbrev Switch:=den qq
abbrev xp:Ty:=(.cons .str ju)
abbrev eK:=den xp
abbrev uk:Ty:=(.cons (.int .i64) (.cons (.int .i64) .nil))
abbrev xh:=den uk
abbrev sc:Ty:=(.cons (.int .u8) (.cons (.int .u8) .nil))
abbrev Hi:=den sc
abbrev yl:Ty:=(.cons (.sl .str) (.cons (.sl .str) .nil))
abbrev uF:=den yl
abbrev wA:Ty:=(.cons (.int .i64) (.cons (.sl .str) ju))
abbrev Answer:=den wA
abbrev Qx:Ty:=(.cons (.int .i64) (.cons (.int .i64) (.cons .bool (.cons (.int .u8) .nil))))
abbrev FY:=den Qx
abbrev zl:Ty:=(.cons .bool (.cons (.sl (.int .u32)) (.cons (.sl (.int .u32)) .nil)))
abbrev Rat:=den zl
abbrev qu:Ty:=(.cons .str (.cons (.int .i64) (.cons .bool (.cons (.int .i64) .nil))))
abbrev Field:=den qu
abbrev xk:Ty:=(.cons .str (.cons (.int .i64) (.cons (.int .i64) (.cons .bool .nil))))
abbrev zc:=den xk
abbrev xl:Ty:=(.cons .str (.cons (.int .i64) (.cons .str (.cons .expr (.cons .expr .nil)))))
abbrev dW:=den xl
abbrev xj:Ty:=(.cons .str (.cons (.int .i64) (.cons (.int .i64) (.cons .expr (.cons .expr .nil)))))
abbrev Check:=den xj
abbrev WD:Ty:=(.cons .str (.cons yl (.cons (.int .i64) (.cons .bool .nil))))
abbrev E5:=den WD
abbrev qf:Ty:=(.cons .str (.cons zl .nil))
abbrev Param:=den qf
abbrev qj:Ty:=(.cons (.int .i64) (.cons zl .nil))
abbrev Term:=den qj
abbrev fA:Ty:=(.cons (.int .i64) (.cons .str (.cons zl (.cons .bool .nil))))
abbrev Op:=den fA
abbrev zm:Ty:=(.cons .bool (.cons .bool (.cons zl .nil)))
abbrev qk:=den zm
abbrev uW:Ty:=(.cons (.sl (.int .i64)) (.cons (.sl zl) .nil))
abbrev j8:=den uW
abbrev wI:Ty:=(.cons (.sl .str) (.cons (.sl .str) (.cons (.sl zl) .nil)))
abbrev wj:=den wI
abbrev zq:Ty:=(.cons (.int .i64) (.cons (.sl qj) (.cons zl .nil)))
abbrev vI:=den zq
abbrev Hg:Ty:=(.cons (.sl zq) (.cons (.sl (.int .i64)) .nil))
abbrev z9h:=den Hg
abbrev Xz:Ty:=(.cons (.sl zq) (.cons (.sl (.int .i64)) (.cons (.sl (.int .i64)) .nil)))
abbrev z5d:=den Xz
abbrev qy:Ty:=(.cons (.sl qq) (.cons (.sl qf) (.cons (.sl xp) (.cons (.sl qu) (.cons (.sl xl) (.cons (.sl xj) .nil))))))
abbrev Form:=den qy
abbrev xf:Ty:=(.cons (.sl zl) (.cons (.sl .bool) (.cons (.sl zl) (.cons (.sl (.int .i64)) (.cons (.sl zm) (.cons (.sl .bool) .nil))))))
abbrev qe:=den xf
abbrev ux:Ty:=(.cons qy Xz)
abbrev uj:=den ux
abbrev qs:Ty:=(.cons qy (.cons xf (.cons yl (.cons (.int .i64) (.cons .bool .nil)))))
abbrev zw:=den qs
abbrev qc:=List Switch
abbrev z7:=List Int
abbrev qg:=List Param
abbrev xc:=List eK
abbrev qm:=List Field
abbrev zo:=List zx
abbrev cS:=List AM.Expr
abbrev xa:=List dW
abbrev qp:=List Check
abbrev zr:=List Rat
abbrev zp:=List Bool
abbrev wB:=List Term
abbrev zy:=List vI
abbrev zn:=List qk
abbrev Jr:=List Op
abbrev eU:=List Answer
def cp(a:Int):T Bool :=
 Y ((zA (97<=a))&&(zA (a<=122)))
def jZ(a:Int):T Bool :=
 Y ((zA (48<=a))&&(zA (a<=57)))
def bQ(a:Int):T Bool :=
 X (cp a) λb =>
 V b
  (Y true)
  (X (jZ a) λc =>
 V c
  (Y true)
  (Y (a==95)))
def ZB(b:zx)(d:Int):Int->T (Int⊕(Unit⊕Bool))
 | a =>
 V (zA (a<d))
  (oI a b <|
 X (bQ (uq b a)) λc =>
 V (!c)
  (Y (zF (zF false)))
  (Y (zG (qo (a+1)))))
  (Y (zF (zG ())))
def ZA s1 x1 s:=zJ (ZB s1 x1) s
def uP(a:zx):T Bool :=
 X (V (wK a [])
  (Y true)
  (V (zA (24<(a.length:Int)))
  (Y true)
  (oI 0 a <|
 X (cp (uq a 0)) λb =>
 Y (!b))):T Bool) λc =>
 V c
  (Y false)
  (X (ZA a (a.length:Int) 0) <|
 zK (λ_ =>
 Y true)
  (λd =>
 Y d))
def yL(b:Switch):T Bool :=
 X (uP b.1) λa =>
 Y (!a)
def wY(b:qc)(d:Switch->T Bool)(e:Int):Int->T (Int⊕(Unit⊕Int))
 | a =>
 V (zA (a<e))
  (oI a b <|
 X (d (nth b a (zb qq))) λc =>
 V c
  (Y (zF (zF a)))
  (Y (zG (qo (a+1)))))
  (Y (zF (zG ())))
def nu s1 f x s:=zJ (wY s1 f x) s
def wa(a:qc)(c:Switch->T Bool):T Int :=
 X (nu a c (a.length:Int) 0) <|
 zK (λ_ =>
 Y (-1))
  (λb =>
 Y b)
def vE(b:qc)(c:Switch->T Bool):T Bool :=
 X (wa b c) λa =>
 Y (zA (0<=a))
def ZQ(a:z7):T Bool :=
 .W ((((a.length:Int)==0)=false)->(xe (qo ((a.length:Int)-1)) a.length)) <|
 Y (((a.length:Int)==0)||((nth a (qo ((a.length:Int)-1)) (zb (.int .u32))) != 0))
def sM  : z7->T (z7⊕z7)
 | a =>
 X (ZQ a) λb =>
 V (!b)
  (.W (jy 0 (qo ((a.length:Int)-1)) a.length) <|
 Y (zG (jG (e:=(.int .u32)) 0 (qo ((a.length:Int)-1)) a)))
  (Y (zF a))
def Xh(s:z7):T z7:=zJ (sM ) s
def vV(b:z7):T z7 :=
 X (Xh  b) λa =>
 Y a
def ya(a:z7):T z7 :=
 let b:=0+a.length;  .W (a=[]->∀ r,T.leads (.W (vS 0 0 0 0 0 a.length 4) <|
 .W (b=b) <|
 Y (zH 0 (zI (0+b) a)):T _) r->T.leads (Y []:T _) r) <|
 .W (vS 0 0 0 0 0 a.length 4) <|
 .W (b=b) <|
 Y (zH 0 (zI (0+b) a))
def iC(c:z7):T z7 :=
 X (vV c) λa =>
 X (ya a) λb =>
 Y b
def rF(b:z7)(c:z7):Int->T (Int⊕(Unit⊕Int))
 | a =>
 V (zA (0<=a))
  (oI a b <|
 oI a c <|
 V ((nth b a (zb (.int .u32))) != (nth c a (zb (.int .u32))))
  (oI a b <|
 oI a c <|
 V (zA ((nth b a (zb (.int .u32)))<(nth c a (zb (.int .u32)))))
  (Y (zF (zF (-1))))
  (Y (zF (zF 1))))
  (Y (zG (qo (a-1)))))
  (Y (zF (zG ())))
def YT a2 b2 s:=zJ (rF a2 b2) s
def sJ(d:z7)(e:z7):T Int :=
 X (vV d) λa =>
 X (vV e) λb =>
 V ((a.length:Int) != (b.length:Int))
  (V (zA ((a.length:Int)<(b.length:Int)))
  (Y (-1))
  (Y 1))
  (X (YT a b (qo ((a.length:Int)-1))) <|
 zK (λ_ =>
 Y 0)
  (λc =>
 Y c))
def eG(b:Int)(c:Int)(a:Int):T (Int×Int) :=
 V ((a != 0)&&(zA (a<=b)))
  (.fail)
  (.W (0<=(32:Int)) <|
 .W ((wh a)≠0) <|
 .W ((wh a)≠0) <|
 Y ((gK (wh (zQ (H9 .u64 (Z7 .u64 (wh b) 32) (wh c)) (wh a)))),(gK (zP (H9 .u64 (Z7 .u64 (wh b) 32) (wh c)) (wh a)))))
def oD(e:z7)(g:Int):(Int×Int×z7)->T ((Int×Int×z7)⊕((Int×z7)))
 | (d,b,a) =>
 V (zA (0<=b))
  (oI b e <|
 X (eG d (nth e b (zb (.int .u32))) g) λ(c,f) =>
 oI b a <|
 .W (uN a.length a.length (0+(zE b)) a.length) <|
 oM a.length (zL a (0+(zE b)) c).length <|
 Y (zG (f,((qo (b-1)),(zL a (0+(zE b)) c)))))
  (oC a <|
 U a <|
 Y (zF (d,a)))
def Uj a1 b1 s:=zJ (oD a1 b1) s
def pe(a:z7)(e:Int):T (z7×Int) :=
 .W (ez (a.length:Int) (a.length:Int) 4) <|
 oM (zE (a.length:Int)) (zM (zE (a.length:Int)) (0:Int)).length <|
 X (Uj a e (0,((qo ((a.length:Int)-1)),(zM (zE (a.length:Int)) 0)))) λ(c,b) =>
 U b <|
 X (vV (zH 0 (zI (0+b.length) b))) λd =>
 Y (d,c)
def iu(a:Int):T z7 :=
 .W (0<=(32:Int)) <|
 X (vV ([(gK a),(gK (jj .u64 a 32))]:List Int)) λb =>
 Y b
def eH(b:Int):T Int :=
 let a:=bif (zA (65536<=b))then(jj .u32 b 16)else b;  .W (((zA (65536<=b))=true)->(0<=(16:Int))) <|
 .W (((zA (256<=a))=true)->(0<=(8:Int))) <|
 .W (xe (wu8 (bif (zA (256<=a))then(jj .u32 a 8)else a)) ([0,1,2,2,3,3,3,3,4,4,4,4,4,4,4,4,5,5,5,5,5,5,5,5,5,5,5,5,5,5,5,5,6,6,6,6,6,6,6,6,6,6,6,6,6,6,6,6,6,6,6,6,6,6,6,6,6,6,6,6,6,6,6,6,7,7,7,7,7,7,7,7,7,7,7,7,7,7,7,7,7,7,7,7,7,7,7,7,7,7,7,7,7,7,7,7,7,7,7,7,7,7,7,7,7,7,7,7,7,7,7,7,7,7,7,7,7,7,7,7,7,7,7,7,7,7,7,7,8,8,8,8,8,8,8,8,8,8,8,8,8,8,8,8,8,8,8,8,8,8,8,8,8,8,8,8,8,8,8,8,8,8,8,8,8,8,8,8,8,8,8,8,8,8,8,8,8,8,8,8,8,8,8,8,8,8,8,8,8,8,8,8,8,8,8,8,8,8,8,8,8,8,8,8,8,8,8,8,8,8,8,8,8,8,8,8,8,8,8,8,8,8,8,8,8,8,8,8,8,8,8,8,8,8,8,8,8,8,8,8,8,8,8,8,8,8,8,8,8,8,8,8,8,8,8,8]:zx).length) <|
 Y (qo ((bif (zA (256<=a))then(qo ((bif (zA (65536<=b))then 16 else 0)+8))else(bif (zA (65536<=b))then 16 else 0))+(qo (uq [0,1,2,2,3,3,3,3,4,4,4,4,4,4,4,4,5,5,5,5,5,5,5,5,5,5,5,5,5,5,5,5,6,6,6,6,6,6,6,6,6,6,6,6,6,6,6,6,6,6,6,6,6,6,6,6,6,6,6,6,6,6,6,6,7,7,7,7,7,7,7,7,7,7,7,7,7,7,7,7,7,7,7,7,7,7,7,7,7,7,7,7,7,7,7,7,7,7,7,7,7,7,7,7,7,7,7,7,7,7,7,7,7,7,7,7,7,7,7,7,7,7,7,7,7,7,7,7,8,8,8,8,8,8,8,8,8,8,8,8,8,8,8,8,8,8,8,8,8,8,8,8,8,8,8,8,8,8,8,8,8,8,8,8,8,8,8,8,8,8,8,8,8,8,8,8,8,8,8,8,8,8,8,8,8,8,8,8,8,8,8,8,8,8,8,8,8,8,8,8,8,8,8,8,8,8,8,8,8,8,8,8,8,8,8,8,8,8,8,8,8,8,8,8,8,8,8,8,8,8,8,8,8,8,8,8,8,8,8,8,8,8,8,8,8,8,8,8,8,8,8,8,8,8,8,8] (wu8 (bif (zA (256<=a))then(jj .u32 a 8)else a))))))
def ke(b:Int):T Int :=
 X (eH b) λa =>
 Y (qo (32-a))
def Wx(e:Int)(h:Int)(f:z7)(i:Int):(Int×z7)->T ((Int×z7)⊕z7)
 | (b,a)=>let c:=qo (b+1); let d:=zL a (0+(zE b)) (H9 .u32 (wi a (0+(zE b)) (zb (.int .u32))) (gK (Z7 .u64 (wh (nth f b (zb (.int .u32)))) e))); let g:=zL d (0+(zE c)) (gK (jj .u64 (Z7 .u64 (wh (nth f b (zb (.int .u32)))) e) 32));
 V (zA (b<i))
  (oI b f <|
 .W (0<=e) <|
 oI b a <|
 .W (uN a.length a.length (0+(zE b)) a.length) <|
 oI b a <|
 .W (uN a.length a.length (0+(zE b)) a.length) <|
 V (zA (c<h))
  (.W (0<=(32:Int)) <|
 oI c a <|
 .W (uN a.length a.length (0+(zE c)) d.length) <|
 oM a.length g.length <|
 Y (zG (c,g)))
  (oM a.length d.length <|
 Y (zG (c,d))))
  (oC a <|
 U a <|
 Y (zF a))
def Ww by_1 n1 x x1 s:=zJ (Wx by_1 n1 x x1) s
def rH(c:z7)(d:Int)(a:Int):T z7 :=
 .W (ez a a 4) <|
 oM (zE a) (zM (zE a) (0:Int)).length <|
 X (Ww d a c (c.length:Int) (0,(zM (zE a) 0))) λb =>
 oC b <|
 U b <|
 Y b
def iD(d:Int)(c:Int)(e:Int):(Int×Int)->T ((Int×Int)⊕Int)
 | (a,b) =>
 .W ((0<=(32:Int))/\((((jj .u64 a 32) != 0)=false)->(0<=(32:Int)))) <|
 V (((jj .u64 a 32) != 0)||(zA ((H9 .u64 (Z7 .u64 b 32) (wh d))<(wh (a*(wh e))))))
  (.W (0<=(32:Int)) <|
 V ((jj .u64 (wh (b+(wh c))) 32) != 0)
  (Y (zF (wh (a-1))))
  (Y (zG ((wh (a-1)),(wh (b+(wh c)))))))
  (Y (zF a))
def Ug low1 b11 b21 s:=zJ (iD low1 b11 b21) s
def pc(b:Int)(c:Int)(e:Int)(a:Int)(f:Int):T Int :=
 .W (0<=(32:Int)) <|
 .W ((wh a)≠0) <|
 .W ((wh a)≠0) <|
 X (Ug e a f ((wh (zQ (H9 .u64 (Z7 .u64 (wh b) 32) (wh c)) (wh a))),(zP (H9 .u64 (Z7 .u64 (wh b) 32) (wh c)) (wh a)))) λd =>
 Y d
def kS(a:Int)(b:Int)(c:Int):T (Int×Int) :=
 .W (0<=(31:Int)) <|
 Y ((gK ((gK (a-b))-c)),(jj .u32 (H9 .u32 (GO .u32 (LZ .u32 4294967295 a) b) (GO .u32 (LZ .u32 4294967295 (LZ .u32 a b)) (gK ((gK (a-b))-c)))) 31))
def eF(a:Int)(b:Int)(c:Int):T (Int×Int) :=
 .W (0<=(32:Int)) <|
 Y ((gK (wh ((wh ((wh a)+(wh b)))+(wh c)))),(gK (jj .u64 (wh ((wh ((wh a)+(wh b)))+(wh c))) 32)))
def iE(l:z7)(i:Int)(f:z7)(k:Int):((Nat×Nat)×Int×Int×Int×z7)->T (((Nat×Nat)×Int×Int×Int×z7)⊕(((Nat×Nat)×Int×Int×z7)))
 | (c,e,h,b,a)=>let d:=c.1+(zE b);
 V (zA (b<k))
  (oI b f <|
 .W (xe b c.2) <|
 .W (uN a.length a.length d a.length) <|
 X (kS (wi a d (zb (.int .u32))) (gK (wh (e+(wh (i*(wh (nth f b (zb (.int .u32))))))))) h) λ(g,j) =>
 .W (xe b c.2) <|
 .W (uN a.length a.length d a.length) <|
 .W (0<=(32:Int)) <|
 U a <|
 .W (a.length=(zL a d g).length) <|
 Y (zG (c,((jj .u64 (wh (e+(wh (i*(wh (nth f b (zb (.int .u32)))))))) 32),(j,((qo (b+1)),(zL a d g)))))))
  (U a <|
 U a <|
 Y (zF (c,(e,(h,a)))))
def Xf b1 q1 x x1 s:=zJ (iE b1 q1 x x1) s
def iF(j:z7)(g:z7)(i:Int):((Nat×Nat)×Int×Int×z7)->T (((Nat×Nat)×Int×Int×z7)⊕(((Nat×Nat)×Int×z7)))
 | (c,f,b,a)=>let d:=c.1+(zE b);
 V (zA (b<i))
  (oI b g <|
 .W (xe b c.2) <|
 .W (uN a.length a.length d a.length) <|
 X (eF (wi a d (zb (.int .u32))) (nth g b (zb (.int .u32))) f) λ(e,h) =>
 .W (xe b c.2) <|
 .W (uN a.length a.length d a.length) <|
 U a <|
 .W (a.length=(zL a d e).length) <|
 Y (zG (c,(h,((qo (b+1)),(zL a d e))))))
  (U a <|
 U a <|
 Y (zF (c,(f,a))))
def Xg b2 x3 x4 s:=zJ (iF b2 x3 x4) s
def sK(o:(Nat×Nat))(b:z7)(p:Int)(h:z7):T (Bool×z7) :=
 let d:=zE (b.length:Int);  U h <|
 U h <|
 X (Xf b p b (b.length:Int) (o,(0,(0,(0,h))))) λ(e,j,k,a) =>
 .W (xe (b.length:Int) e.2) <|
 .W (uN a.length a.length (e.1+d) a.length) <|
 X (kS (wi a (e.1+d) (zb (.int .u32))) (gK j) k) λ(l,m)=>let g:=zL a (e.1+d) l;
 .W (xe (b.length:Int) e.2) <|
 .W (uN a.length a.length (e.1+d) a.length) <|
 V (m==0)
  (.W (a.length=g.length) <|
 Y (false,g))
  (U a <|
 .W (a.length=g.length) <|
 X (Xg b b (b.length:Int) (e,(0,(0,g)))) λ(f,n,c)=>let i:=zL c (f.1+d) (gK ((wi c (f.1+d) (zb (.int .u32)))+n));
 .W (xe (b.length:Int) f.2) <|
 .W (uN c.length c.length (f.1+d) c.length) <|
 .W (xe (b.length:Int) f.2) <|
 .W (uN c.length c.length (f.1+d) c.length) <|
 .W (c.length=i.length) <|
 Y (true,i))
def nd(e:Int)(h:Int)(f:z7)(i:Int):(Int×z7)->T ((Int×z7)⊕z7)
 | (b,a)=>let c:=qo (b+1); let d:=zL a (0+(zE b)) (H9 .u32 (wi a (0+(zE b)) (zb (.int .u32))) (gK (Z7 .u64 (wh (nth f b (zb (.int .u32)))) e))); let g:=zL d (0+(zE c)) (gK (jj .u64 (Z7 .u64 (wh (nth f b (zb (.int .u32)))) e) 32));
 V (zA (b<i))
  (oI b f <|
 .W (0<=e) <|
 oI b a <|
 .W (uN a.length a.length (0+(zE b)) a.length) <|
 oI b a <|
 .W (uN a.length a.length (0+(zE b)) a.length) <|
 V (zA (c<h))
  (.W (0<=(32:Int)) <|
 oI c a <|
 .W (uN a.length a.length (0+(zE c)) d.length) <|
 oM a.length g.length <|
 Y (zG (c,g)))
  (oM a.length d.length <|
 Y (zG (c,d))))
  (oC a <|
 U a <|
 Y (zF a))
def JN by_1 n1 x x1 s:=zJ (nd by_1 n1 x x1) s
def Uh(c:z7)(d:Int)(a:Int):T z7 :=
 .W (ez a a 4) <|
 oM (zE a) (zM (zE a) (0:Int)).length <|
 X (JN d a c (c.length:Int) (0,(zM (zE a) 0))) λb =>
 U b <|
 Y (zH 0 (zI (0+b.length) b))
def iB(e:Int)(f:z7)(h:Int):(Int×z7)->T ((Int×z7)⊕z7)
 | (b,a)=>let d:=0+(zE (qo (b-1))); let c:=zL a (0+(zE b)) (H9 .u32 (wi a (0+(zE b)) (zb (.int .u32))) (gK (jj .u64 (jj .u64 (Z7 .u64 (wh (nth f b (zb (.int .u32)))) 32) e) 32))); let g:=zL c d (H9 .u32 (wi c d (zb (.int .u32))) (gK (jj .u64 (Z7 .u64 (wh (nth f b (zb (.int .u32)))) 32) e)));
 V (zA (b<h))
  (oI b f <|
 .W (0<=(32:Int)) <|
 .W (0<=e) <|
 oI b a <|
 .W (uN a.length a.length (0+(zE b)) a.length) <|
 .W (0<=(32:Int)) <|
 oI b a <|
 .W (uN a.length a.length (0+(zE b)) a.length) <|
 V (zA (0<b))
  (oI (qo (b-1)) a <|
 .W (uN a.length a.length d c.length) <|
 oI (qo (b-1)) a <|
 .W (uN a.length a.length d c.length) <|
 oM a.length g.length <|
 Y (zG ((qo (b+1)),g)))
  (oM a.length c.length <|
 Y (zG ((qo (b+1)),c))))
  (oC a <|
 U a <|
 Y (zF a))
def Ue by_ x x1 s:=zJ (iB by_ x x1) s
def ma(m:z7)(n:Int):T z7 :=
 let g:=V1 (l8 n (-4096)) 4096; let d:=qo (zQ g (32:Int)); let c:=qo (zQ (qo (0-g)) (32:Int));  X (vV m) λf=>let a:=(f.length:Int); let i:=qo ((qo (d+a))+1); let b:=zE i;
 V (zA (g<0))
  (.W (32≠(0:Int)) <|
 V (zA (a<=c))
  (Y [])
  (.W (32≠(0:Int)) <|
 .W (ez (qo (a-c)) (qo (a-c)) 4) <|
 .W (jy c a f.length) <|
 oM (zE (qo (a-c))) (zM (zE (qo (a-c))) (0:Int)).length <|
 X (Ue (wh (zP (qo (0-g)) (32:Int))) (jG (e:=(.int .u32)) c a f) (zN (jG (e:=(.int .u32)) c a f).length:Int) (0,(zM (zE (qo (a-c))) 0))) λh =>
 U h <|
 X (vV (zH 0 (zI (0+h.length) h))) λj =>
 Y j))
  (.W (32≠(0:Int)) <|
 .W (ez i i 4) <|
 .W (jy d (zN b:Int) b) <|
 .W (32≠(0:Int)) <|
 X (Uh f (wh (zP g (32:Int))) (qo (a+1))) λk =>
 .W (QL b b (0+(zE d)) ((zE (zN b:Int))-(zE d)) (zM b (0:Int)).length) <|
 .W (b=b) <|
 X (vV (zH 0 (zI (0+b) (yn (0+(zE d)) ((zE (zN b:Int))-(zE d)) (zM b 0) k)))) λl =>
 Y l)
def nf(m:Int)(g:z7)(c:Int):(Int×z7×z7)->T ((Int×z7×z7)⊕((z7×z7)))
 | (b,a,d) =>
 V (zA (0<=b))
  (oI (qo (b+c)) a <|
 .W (uN a.length a.length (0+(zE (qo (b+c)))) a.length) <|
 oI (qo ((qo (b+c))-1)) a <|
 .W (uN a.length a.length (0+(zE (qo ((qo (b+c))-1)))) a.length) <|
 oI (qo ((qo (b+c))-2)) a <|
 .W (uN a.length a.length (0+(zE (qo ((qo (b+c))-2)))) a.length) <|
 oI (qo (c-1)) g <|
 oI (qo (c-2)) g <|
 X (pc (wi a (0+(zE (qo (b+c)))) (zb (.int .u32))) (wi a (0+(zE (qo ((qo (b+c))-1)))) (zb (.int .u32))) (wi a (0+(zE (qo ((qo (b+c))-2)))) (zb (.int .u32))) (nth g (qo (c-1)) (zb (.int .u32))) (nth g (qo (c-2)) (zb (.int .u32)))) λh =>
 X (.W (jy b (qo ((qo (b+c))+1)) a.length) <|
 U a <|
 U a <|
 X (sK ((0+(zE b)),((zE (qo ((qo (b+c))+1)))-(zE b))) g h a) λ(k,f) =>
 V k
  (oC d <|
 .W (zu a.length 0 a.length f.length) <|
 U f <|
 U d <|
 Y ((wh (h-1)),(f,d)))
  (oC d <|
 .W (zu a.length 0 a.length f.length) <|
 U f <|
 U d <|
 Y (h,(f,d))):T ((Int×z7×z7))) λ(l,i,e)=>let j:=zL e (0+(zE b)) (gK l);
 oI b e <|
 .W (uN e.length e.length (0+(zE b)) e.length) <|
 .W (zu e.length 0 e.length j.length) <|
 oC i <|
 U i <|
 .W (e.length=j.length) <|
 Y (zG ((qo (b-1)),(i,j))))
  (oC d <|
 oC a <|
 U a <|
 U d <|
 Y (zF (a,d)))
def JO by_ d n s:=zJ (nf by_ d n) s
def Ui(i:z7)(c:z7):T (z7×z7) :=
 oI (qo ((c.length:Int)-1)) c <|
 X (ke (nth c (qo ((c.length:Int)-1)) (zb (.int .u32)))) λf =>
 X (rH i (wh f) (qo ((i.length:Int)+1))) λg =>
 X (rH c (wh f) (c.length:Int)) λa=>let j:=qo ((qo ((i.length:Int)-(a.length:Int)))+1); let b:=zE j;
 .W (ez j j 4) <|
 U a <|
 .W (zu b 0 b (zM b (0:Int)).length) <|
 oC g <|
 U g <|
 .W (b=(zM b (0:Int)).length) <|
 X (JO (wh f) (zH 0 (zI (0+a.length) a)) (a.length:Int) ((qo ((zN b:Int)-1)),(g,(zM b 0)))) λ(d,h) =>
 U h <|
 U d <|
 X (vV (zH 0 (zI (0+h.length) h))) λk =>
 .W (jy 0 (a.length:Int) (zH 0 (zI (0+d.length) d)).length) <|
 X (ma (jG (e:=(.int .u32)) 0 (a.length:Int) (zH 0 (zI (0+d.length) d))) (qo (0-(qo (wh f))))) λl =>
 Y (k,l)
def dt(j:z7)(k:z7):T (z7×z7×Bool) :=
 X (vV j) λb =>
 X (vV k) λa =>
 V ((a.length:Int)==0)
  (Y ([],([],false)))
  (X (sJ b a) λc =>
 V (zA (c<0))
  (X (iC b) λd =>
 Y ([],(d,true)))
  (V ((a.length:Int)==1)
  (oI 0 a <|
 X (pe b (nth a 0 (zb (.int .u32)))) λ(e,f) =>
 X (iu (wh f)) λg =>
 Y (e,(g,true)))
  (X (Ui b a) λ(h,i) =>
 Y (h,(i,true)))))
def rG  : (z7×z7)->T ((z7×z7)⊕z7)
 | (b,a) =>
 V (zA (0<(a.length:Int)))
  (X (dt b a) λ(d,c,e) =>
 Y (zG (a,c)))
  (Y (zF b))
def YU(s:(z7×z7)):T z7:=zJ (rG ) s
def XT(d:z7)(e:z7):T z7 :=
 X (iC d) λa =>
 X (iC e) λb =>
 X (YU  (a,b)) λc =>
 Y c
def tq(a:Rat):T Bool :=
 X (X (ZQ a.2.1) λb =>
 V (!b)
  (Y true)
  (X (ZQ a.2.2.1) λc =>
 V (!c)
  (Y true)
  (V ((a.2.2.1.length:Int)==0)
  (Y true)
  (V a.1
  (Y ((a.2.1.length:Int)==0))
  (Y false)))):T Bool) λd =>
 V d
  (Y false)
  (X (XT a.2.1 a.2.2.1) λe =>
 X (iu 1) λf =>
 X (sJ e f) λg =>
 Y (g==0))
def rM(g:Bool)(h:z7)(i:z7):T Rat :=
 X (iC h) λa =>
 X (iC i) λb =>
 V (((a.length:Int)==0)||((b.length:Int)==0))
  (X (iu 1) λd =>
 Y (false,(([]:List Int),(d,()))))
  (X (XT a b) λc =>
 X (dt a c) λ(e,j,k) =>
 X (dt b c) λ(f,l,m) =>
 Y (g,(e,(f,()))))
def vD(a:Rat):T Rat :=
 X (rM a.1 a.2.1 a.2.2.1) λb =>
 Y b
def cu(b:Rat):T Bool :=
 X (vD b) λa =>
 Y ((zA (16<(a.2.1.length:Int)))||(zA (16<(a.2.2.1.length:Int))))
def yM(a:Param):T Bool :=
 X (uP a.1) λb =>
 V (!b)
  (Y true)
  (X (tq a.2.1) λc =>
 V (!c)
  (Y true)
  (X (cu a.2.1) λd =>
 Y d))
def uY(b:qg)(d:Param->T Bool)(e:Int):Int->T (Int⊕(Unit⊕Int))
 | a =>
 V (zA (a<e))
  (oI a b <|
 X (d (nth b a (zb qf))) λc =>
 V c
  (Y (zF (zF a)))
  (Y (zG (qo (a+1)))))
  (Y (zF (zG ())))
def o6 s1 f x s:=zJ (uY s1 f x) s
def vH(a:qg)(c:Param->T Bool):T Int :=
 X (o6 a c (a.length:Int) 0) <|
 zK (λ_ =>
 Y (-1))
  (λb =>
 Y b)
def vO(b:qg)(c:Param->T Bool):T Bool :=
 X (vH b c) λa =>
 Y (zA (0<=a))
def iU(a:zx):T Bool :=
 V (wK a [])
  (Y true)
  (X (uP a) λb =>
 Y b)
def yN(a:eK):T Bool :=
 X (uP a.1) λb =>
 V (!b)
  (Y true)
  (X (iU a.2.1) λc =>
 Y (!c))
def yf(b:xc)(d:eK->T Bool)(e:Int):Int->T (Int⊕(Unit⊕Int))
 | a =>
 V (zA (a<e))
  (oI a b <|
 X (d (nth b a (zb xp))) λc =>
 V c
  (Y (zF (zF a)))
  (Y (zG (qo (a+1)))))
  (Y (zF (zG ())))
def oS s1 f x s:=zJ (yf s1 f x) s
def uU(a:xc)(c:eK->T Bool):T Int :=
 X (oS a c (a.length:Int) 0) <|
 zK (λ_ =>
 Y (-1))
  (λb =>
 Y b)
def yc(b:xc)(c:eK->T Bool):T Bool :=
 X (uU b c) λa =>
 Y (zA (0<=a))
def sX(b:Form):T Bool :=
 X (vE b.1 (λa=>yL a)) λc =>
 V (!c)
  (X (vO b.2.1 (λa=>yM a)) λd =>
 V (!d)
  (X (yc b.2.2.1 (λa=>yN a)) λe =>
 Y (!e))
  (Y false))
  (Y false)
def iT(a:Int)(b:Int)(c:Int):T Bool :=
 Y ((zA ((l8 b 0)<=a))&&(zA (a<c)))
def nW(i:Form)(c:qm)(j:Int):(Int×Int)->T ((Int×Int)⊕(Unit⊕Bool))
 | (h,b)=>let a:=nth c b (zb qu);
 V (zA (b<j))
  (oI b c <|
 X (X (uP a.1) λd =>
 V (!d)
  (Y (true,a))
  (X (iT a.2.1 h (i.2.2.1.length:Int)) λe =>
 V (!e)
  (Y (true,a))
  (V (zA (a.2.2.2.1<(0:Int)))
  (Y (true,a))
  (Y ((zA ((9:Int)<a.2.2.2.1)),a)))):T ((Bool×Field))) λ(f,g) =>
 V f
  (Y (zF (zF false)))
  (Y (zG (g.2.1,(qo (b+1))))))
  (Y (zF (zG ())))
def nV f1 x x1 s:=zJ (nW f1 x x1) s
def oP(a:Form):T Bool :=
 X (nV a a.2.2.2.1 (a.2.2.2.1.length:Int) (0,0)) <|
 zK (λ_ =>
 Y true)
  (λb =>
 Y b)
def bz  : T zo :=
 Y ([[61],[60],[60,61]]:List zx)
def XM(a:Int):T Int :=
 V (bif (a==1)then(a==1)else(a==2))
  (Y 0)
  (V (a==7)
  (Y 1)
  (V (a==3)
  (Y 2)
  (V (a==4)
  (Y 2)
  (V (a==5)
  (Y 2)
  (V (a==6)
  (Y 2)
  (Y (-1)))))))
def V8(j:z7)(d:Int)(h:Int)(k:z7)(l:Int)(m:Int)(g:z7)(i:Int):(Int×Int×z7)->T ((Int×Int×z7)⊕((Int×z7)))
 | (f,b,a)=>let c:=0+(zE (qo (d+b))); let e:=wh (f+(wh ((wh ((wh h)*(wh (nth g b (zb (.int .u32))))))+(wh (wi a c (zb (.int .u32)))))));
 V (zA (b<i))
  (oI b g <|
 oI (qo (d+b)) a <|
 .W (uN a.length a.length c a.length) <|
 oI (qo (d+b)) a <|
 .W (uN a.length a.length c a.length) <|
 .W (0<=(32:Int)) <|
 oM a.length (zL a c (gK e)).length <|
 Y (zG ((jj .u64 e 32),((qo (b+1)),(zL a c (gK e))))))
  (oC a <|
 U a <|
 Y (zF (f,a)))
def V6 b3 i v x3 x4 x5 x6 x7 s:=zJ (V8 b3 i v x3 x4 x5 x6 x7) s
def V7(d:z7)(e:z7)(h:Int):(Int×z7)->T ((Int×z7)⊕z7)
 | (a,c)=>let f:=0+(zE (qo (a+(d.length:Int))));
 V (zA (a<h))
  (oI a e <|
 oC c <|
 U c <|
 X (V6 d a (nth e a (zb (.int .u32))) e h a d (d.length:Int) (0,(0,c))) λ(g,b) =>
 oI (qo (a+(d.length:Int))) b <|
 .W (uN b.length b.length f b.length) <|
 oM b.length (zL b f (gK g)).length <|
 Y (zG ((qo (a+1)),(zL b f (gK g)))))
  (oC c <|
 U c <|
 Y (zF c))
def V5 b2 x x1 s:=zJ (V7 b2 x x1) s
def ir(f:z7)(g:z7):T z7 :=
 X (vV f) λb =>
 X (vV g) λd=>let a:=qo ((b.length:Int)+(d.length:Int));
 .W (ez a a 4) <|
 oM (zE a) (zM (zE a) (0:Int)).length <|
 X (V5 d b (b.length:Int) (0,(zM (zE a) 0))) λc =>
 U c <|
 X (vV (zH 0 (zI (0+c.length) c))) λe =>
 Y e
def WR(e:Int):(z7×Int)->T ((z7×Int)⊕z7)
 | (a,b) =>
 V (zA (b<e))
  (X (iu 10) λc =>
 X (ir a c) λd =>
 Y (zG (d,(qo (b+1)))))
  (Y (zF a))
def WQ x s:=zJ (WR x) s
def VK(c:Int):T z7 :=
 X (iu 1) λa =>
 X (WQ c (a,0)) λb =>
 Y b
def QM(a:Rat):T zx :=
 V a.1
  (Y [45])
  (Y [])
def ja  : ((Nat×Nat)×Int×Int×z7)->T (((Nat×Nat)×Int×Int×z7)⊕z7)
 | (b,c,d,a)=>let e:=zL a (b.1+(zE c)) (wi a (b.1+(zE d)) (zb (.int .u8))); let f:=zL e (b.1+(zE d)) (wi a (b.1+(zE c)) (zb (.int .u8)));
 V (zA (c<d))
  (.W (xe d b.2) <|
 .W (uN a.length a.length (b.1+(zE d)) a.length) <|
 .W (xe c b.2) <|
 .W (uN a.length a.length (b.1+(zE c)) a.length) <|
 .W (xe c b.2) <|
 .W (uN a.length a.length (b.1+(zE c)) a.length) <|
 .W (xe d b.2) <|
 .W (uN a.length a.length (b.1+(zE d)) e.length) <|
 U a <|
 .W (a.length=f.length) <|
 Y (zG (b,((qo (c+1)),((qo (d-1)),f)))))
  (U a <|
 Y (zF a))
def cQ(s:((Nat×Nat)×Int×Int×z7)):T z7:=zJ (ja ) s
def kh(c:(Nat×Nat))(a:z7):T z7 :=
 U a <|
 U a <|
 X (cQ  (c,(0,((qo ((zN c.2:Int)-1)),a)))) λb =>
 U b <|
 Y b
def iw(e:z7):(Int×Int×z7)->T ((Int×Int×z7)⊕z7)
 | (b,c,a)=>let d:=a++([(uq [48,49,50,51,52,53,54,55,56,57] (zP b (10:Int)))]:List Int);
 V (zA (c<9))
  (.W (10≠(0:Int)) <|
 oI (zP b (10:Int)) ([48,49,50,51,52,53,54,55,56,57]:zx) <|
 oA a 1 <|
 .W (10≠(0:Int)) <|
 oM (a.length+1) d.length <|
 Y (zG ((gK (zQ b (10:Int))),((qo (c+1)),d))))
  (oC a <|
 U a <|
 Y (zF a))
def ZU q1 s:=zJ (iw q1) s
def iv  : (z7×z7)->T ((z7×z7)⊕z7)
 | (d,a) =>
 V (zA (0<(d.length:Int)))
  (X (pe d 1000000000) λ(c,e) =>
 oC a <|
 U a <|
 X (ZU c (e,(0,a))) λb =>
 oC b <|
 U b <|
 Y (zG (c,b)))
  (oC a <|
 U a <|
 Y (zF a))
def ZT(s:(z7×z7)):T z7:=zJ (iv ) s
def iA  : ((Nat×Nat)×z7)->T (((Nat×Nat)×z7)⊕(((Nat×Nat)×z7)))
 | (b,a)=>let c:=qo ((zN b.2:Int)-1);
 .W (((zA (1<(zN b.2:Int)))=true)->((xe c b.2)/\(uN a.length a.length (b.1+(zE c)) a.length))) <|
 V ((zA (1<(zN b.2:Int)))&&((wi a (b.1+(zE c)) (zb (.int .u8)))==48))
  (.W (jy 0 c b.2) <|
 U a <|
 U a <|
 Y (zG (((b.1+(zE 0)),((zE c)-(zE 0))),a)))
  (U a <|
 U a <|
 Y (zF (b,a)))
def Ud(s:((Nat×Nat)×z7)):T (((Nat×Nat)×z7)):=zJ (iA ) s
def lZ(f:z7):T zx :=
 X (iC f) λd =>
 V ((d.length:Int)==0)
  (Y [48])
  (oZ <|
 X (ZT  (d,[])) λa =>
 U a <|
 U a <|
 X (Ud  ((0,a.length),a)) λ(b,c) =>
 U c <|
 U c <|
 X (kh b c) λe =>
 .W (c.length=e.length) <|
 Y (ko (zH b.1 (zI (b.1+b.2) e))))
def strings_Repeat(b:zx)(a:Int):T zx :=
 .W (0<=a/\a<=9223372036854775807/\b.length*(zE a)<=140737488355328) <|
 Y (CY b (zE a))
def sx(a:zx)(e:Int):T zx :=
 V (e==0)
  (Y a)
  (X (strings_Repeat [48] (l8 0 (qo ((qo (e+1))-(a.length:Int))))) λb=>let d:=((cat b a).length:Int); let c:=qo (d-e);
 oK b a <|
 .W (jy 0 c (cat b a).length) <|
 oK (fG 0 c (cat b a)) [46] <|
 .W (jy c d (cat b a).length) <|
 oK (cat (fG 0 c (cat b a)) [46]) (fG c d (cat b a)) <|
 Y (cat (cat (fG 0 c (cat b a)) [46]) (fG c d (cat b a))))
def Zn  : (Int×Rat)->T ((Int×Rat)⊕(Rat⊕(zx×Bool×Rat)))
 | (b,a) =>
 V (zA (b<61))
  (X (VK b) λe =>
 X (ir a.2.1 e) λf =>
 X (dt f a.2.2.1) λ(g,h,j) =>
 V ((h.length:Int)==0)
  (X (QM a) λc =>
 X (lZ g) λi =>
 X (sx i b) λd =>
 oK c d <|
 Y (zF (zF ((cat c d),(true,a)))))
  (Y (zG ((qo (b+1)),a))))
  (Y (zF (zG a)))
def Zm(s:(Int×Rat)):T (Rat⊕(zx×Bool×Rat)):=zJ (Zn ) s
def tI(d:Rat):T (zx×Bool) :=
 X (vD d) λa =>
 X (Zm  (0,a)) <|
 zK (λe =>
 Y ([],false))
  (λ(b,c,f) =>
 Y (b,c))
def ZC(a:Rat):T Bool :=
 X (X (tq a) λb =>
 V (!b)
  (Y true)
  (V a.1
  (Y true)
  (X (cu a) λc =>
 Y c)):T Bool) λd =>
 V d
  (Y false)
  (X (tI a) λ(f,e) =>
 Y e)
def mU(a:Rat):T Bool :=
 V (!a.1)
  (V ((a.2.1.length:Int)==0)
  (V ((a.2.2.1.length:Int)==0)
  (Y true)
  (X (tq a) λb =>
 Y b))
  (Y false))
  (Y false)
def mT(a:AM.Expr):T Bool :=
 X (XM (Expr.kind a)) λb =>
 V (((Expr.kids a).length:Int) != b)
  (Y false)
  (V ((Expr.kind a)==1)
  (X (ZC (Expr.num a)) λc =>
 V c
  (Y (wK (Expr.name a) []))
  (Y false))
  (V ((Expr.kind a)==2)
  (X (mU (Expr.num a)) λd =>
 V d
  (X (uP (Expr.name a)) λe =>
 Y e)
  (Y false))
  (X (mU (Expr.num a)) λf =>
 V f
  (Y (wK (Expr.name a) []))
  (Y false))))
def mE(c:AM.Expr->Int->Int->T (Bool×Int))(d:AM.Expr)(e:Int)(f:Int):T (Bool×Int) :=
 X (c d (qo (e+1)) f) λ(a,b) =>
 Y ((!a),b)
def wT(g:AM.Expr->Int->Int->T (Bool×Int))(e:cS)(h:Int):((Int×Unit)×Int×Int)->T (((Int×Unit)×Int×Int)⊕(Int⊕(Int×Int)))
 | (c,a,d) =>
 V (zA (a<h))
  (oI a e <|
 X ((mE g) (nth e a (zb .expr)) c.1 d) λ(f,b) =>
 V f
  (Y (zF (zF (a,b))))
  (Y (zG ((c.1,()),((qo (a+1)),b)))))
  (Y (zF (zG d)))
def wv self_expr_may s1 x s:=zJ (wT self_expr_may s1 x) s
def vj(e:AM.Expr->Int->Int->T (Bool×Int))(a:cS)(f:(Int×Unit))(g:Int):T (Int×Int) :=
 X (wv e a (a.length:Int) ((f.1,()),(0,g))) <|
 zK (λb =>
 Y ((-1),b))
  (λ(c,d) =>
 Y (c,d))
def wS(c:AM.Expr->Int->Int->T (Bool×Int))(d:cS)(e:(Int×Unit))(f:Int):T (Bool×Int) :=
 X ((vj c) d (e.1,()) f) λ(a,b) =>
 Y ((zA (0<=a)),b)
def ic(i:AM.Expr->Int->Int->T (Bool×Int))(c:AM.Expr)(d:Int)(a:Int):T (Bool×Int) :=
 X (V (zA ((qo (a-1))<0))
  (Y (true,(qo (a-1))))
  (V (zA (32<=d))
  (Y (true,(qo (a-1))))
  (X (mT c) λe =>
 Y ((!e),(qo (a-1))))):T ((Bool×Int))) λ(f,b) =>
 V f
  (Y (false,b))
  (X ((wS i) (Expr.kids c) (d,()) b) λ(g,h) =>
 Y ((!g),h))
def ZE(e:AM.Expr)(deep:Int)(left:Int):T (Bool×Int):=T.fix (λF x=>ic (λy0 y1 y2=>F (y0,y1,y2)) x.1 x.2.1 x.2.2) (e,deep,left)
def fZ(b:AM.Expr):T Bool :=
 X (ZE b 0 256) λ(a,c) =>
 Y a
def kU  : T zo :=
 Y ([[114,101,113,117,105,114,101,100],[115,116,114,111,110,103],[109,101,100,105,117,109],[119,101,97,107]]:List zx)
def kT(a:dW):T Bool :=
 X (uP a.1) λb =>
 V (!b)
  (Y true)
  (V (zA (a.2.1<(0:Int)))
  (Y true)
  (X (kU) λc =>
 V (zA ((c.length:Int)<=a.2.1))
  (Y true)
  (X (iU a.2.2.1) λd =>
 V (!d)
  (Y true)
  (X (fZ a.2.2.2.1) λe =>
 V (!e)
  (Y true)
  (X (fZ a.2.2.2.2.1) λf =>
 Y (!f))))))
def cP(b:xa)(d:dW->T Bool)(e:Int):Int->T (Int⊕(Unit⊕Int))
 | a =>
 V (zA (a<e))
  (oI a b <|
 X (d (nth b a (zb xl))) λc =>
 V c
  (Y (zF (zF a)))
  (Y (zG (qo (a+1)))))
  (Y (zF (zG ())))
def oT s1 f x s:=zJ (cP s1 f x) s
def gU(a:xa)(c:dW->T Bool):T Int :=
 X (oT a c (a.length:Int) 0) <|
 zK (λ_ =>
 Y (-1))
  (λb =>
 Y b)
def yd(b:xa)(c:dW->T Bool):T Bool :=
 X (gU b c) λa =>
 Y (zA (0<=a))
def nU(l:Form)(c:qp)(m:Int):(Int×Int)->T ((Int×Int)⊕(Unit⊕Bool))
 | (k,b)=>let a:=nth c b (zb xj);
 V (zA (b<m))
  (oI b c <|
 X (X (uP a.1) λd =>
 V (!d)
  (Y (true,a))
  (X (iT a.2.1 k (l.2.2.1.length:Int)) λe =>
 V (!e)
  (Y (true,a))
  (V (zA (a.2.2.1<(0:Int)))
  (Y (true,a))
  (X (bz) λf =>
 V (zA ((f.length:Int)<=a.2.2.1))
  (Y (true,a))
  (X (fZ (Expr.mk (Expr.kind a.2.2.2.1) ((Expr.num a.2.2.2.1).1,((Expr.num a.2.2.2.1).2.1,((Expr.num a.2.2.2.1).2.2.1,()))) (Expr.name a.2.2.2.1) (Expr.kids a.2.2.2.1))) λg =>
 V (!g)
  (Y (true,a))
  (X (fZ (Expr.mk (Expr.kind a.2.2.2.2.1) ((Expr.num a.2.2.2.2.1).1,((Expr.num a.2.2.2.2.1).2.1,((Expr.num a.2.2.2.2.1).2.2.1,()))) (Expr.name a.2.2.2.2.1) (Expr.kids a.2.2.2.2.1))) λh =>
 Y ((!h),a)))))):T ((Bool×Check))) λ(i,j) =>
 V i
  (Y (zF (zF false)))
  (Y (zG (j.2.1,(qo (b+1))))))
  (Y (zF (zG ())))
def nT f1 x x1 s:=zJ (nU f1 x x1) s
def oO(a:Form):T Bool :=
 X (nT a a.2.2.2.2.2.1 (a.2.2.2.2.2.1.length:Int) (0,0)) <|
 zK (λ_ =>
 X (yd a.2.2.2.2.1 (λb=>kT b)) λc =>
 Y (!c))
  (λd =>
 Y d)
def tf(v:Unit)(l:List Int):T (Unit×List Int):=Y (v,l)
def xo(b:zx)(e:Unit)(c:z7):T (Int×Unit×z7) :=
 oC c <|
 U c <|
 X (tf () c) λ(d,a) =>
 .W (vS a.length a.length 0 a.length a.length (bytesOf b).length 1) <|
 oM (a.length+(bytesOf b).length) (a++(bytesOf b)).length <|
 Y ((b.length:Int),((),(a++(bytesOf b))))
def gp(g:Rat):T zx :=
 X (vD g) λa =>
 X (QM a) λb =>
 X (lZ a.2.1) λc =>
 oK b c <|
 X (iu 1) λe =>
 X (sJ a.2.2.1 e) λf =>
 V (f != 0)
  (X (lZ a.2.2.1) λd =>
 oK [47] d <|
 oK (cat b c) (cat [47] d) <|
 Y (cat (cat b c) (cat [47] d)))
  (Y (cat b c))
def s6(a:zx):T zx :=
 V (wK a [])
  (Y [])
  (oK [32,119,104,101,110,32] a <|
 Y (cat [32,119,104,101,110,32] a))
def strconv_Itoa(a:Int):T zx :=
 .W ((-9223372036854775808)<=a/\a<=9223372036854775807) <|
 Y (Yr a)
def sW(a:Field):T zx :=
 let c:=cat [102,105,101,108,100,32] a.1; let b:=bif a.2.2.1 then(cat c [32,109,117,115,116])else c;  oK [102,105,101,108,100,32] a.1 <|
 .W ((a.2.2.1=true)->((c.length+([32,109,117,115,116]:zx).length)<=4611686018427387904)) <|
 V (zA ((0:Int)<a.2.2.2.1))
  (X (strconv_Itoa a.2.2.2.1) λe=>let d:=cat [32,115,99,97,108,101,32] e;
 oK [32,115,99,97,108,101,32] e <|
 oK b d <|
 oK (cat b d) [10] <|
 Y (cat (cat b d) [10]))
  (oK b [10] <|
 Y (cat b [10]))
def lS(a:AM.Expr):T Int :=
 V (bif ((Expr.kind a)==3)then((Expr.kind a)==3)else((Expr.kind a)==4))
  (Y 1)
  (V (bif ((Expr.kind a)==5)then((Expr.kind a)==5)else((Expr.kind a)==6))
  (Y 2)
  (V ((Expr.kind a)==7)
  (Y 3)
  (Y 4)))
def dm(c:AM.Expr->T zx)(b:AM.Expr)(f:Int):T zx :=
 X (lS b) λd =>
 V (zA (d<f))
  (X (c b) λa =>
 oK [40] a <|
 oK (cat [40] a) [41] <|
 Y (cat (cat [40] a) [41]))
  (X (c b) λe =>
 Y e)
def gF(d:AM.Expr->T zx)(a:AM.Expr):T zx :=
 X (V ((Expr.kind a)==1)
  (X (tI (Expr.num a)) λ(g,k) =>
 Y (zF g))
  (V ((Expr.kind a)==2)
  (Y (zF (Expr.name a)))
  (V ((Expr.kind a)==7)
  (oI 0 (Expr.kids a) <|
 X ((dm d) (nth (Expr.kids a) 0 (zb .expr)) 3) λe =>
 oK [45] e <|
 Y (zF (cat [45] e)))
  (V ((Expr.kind a)==3)
  (Y (zG [32,43,32]))
  (V ((Expr.kind a)==4)
  (Y (zG [32,45,32]))
  (V ((Expr.kind a)==5)
  (Y (zG [32,42,32]))
  (V ((Expr.kind a)==6)
  (Y (zG [32,47,32]))
  (Y (zG [])))))))):T (zx⊕zx)) <|
 zK (λb =>
 oI 0 (Expr.kids a) <|
 X (lS a) λh =>
 X ((dm d) (nth (Expr.kids a) 0 (zb .expr)) h) λc =>
 oK c b <|
 oI 1 (Expr.kids a) <|
 X (lS a) λi =>
 X ((dm d) (nth (Expr.kids a) 1 (zb .expr)) (qo (i+1))) λf =>
 oK (cat c b) f <|
 Y (cat (cat c b) f))
  (λj =>
 Y j)
def ZF(e:AM.Expr):T zx:=T.fix (λF x=>gF (λy0=>F (y0)) x) e
def r8(a:AM.Expr):T zx :=
 X (fZ a) λb =>
 V (!b)
  (Y [])
  (X (ZF a) λc =>
 Y c)
def nt(e:AM.Expr)(a:zx)(f:AM.Expr):T zx :=
 X (r8 e) λc=>let b:=cat (cat [32,58,32] c) [32];
 oK [32,58,32] c <|
 oK (cat [32,58,32] c) [32] <|
 oK b a <|
 oK (cat b a) [32] <|
 X (r8 f) λd =>
 oK (cat (cat b a) [32]) d <|
 oK (cat (cat (cat b a) [32]) d) [10] <|
 Y (cat (cat (cat (cat b a) [32]) d) [10])
def nZ(f:Int)(k:Form)(d:qm)(g:Int):(Int×Unit×z7)->T ((Int×Unit×z7)⊕((Unit×z7)))
 | (b,j,a) =>
 V (zA (b<g))
  (oI b d <|
 V ((nth d b (zb qu)).2.1==f)
  (X (sW (nth d b (zb qu))) λe =>
 oC a <|
 U a <|
 X (xo e () a) λ(h,i,c) =>
 oC c <|
 U c <|
 Y (zG ((qo (b+1)),((),c))))
  (oC a <|
 U a <|
 Y (zG ((qo (b+1)),((),a)))))
  (oC a <|
 U a <|
 Y (zF ((),a)))
def nX i1 f1 x x1 s:=zJ (nZ i1 f1 x x1) s
def o0(h:Int)(g:qp)(i:Int):(Int×Unit×z7)->T ((Int×Unit×z7)⊕((Unit×z7)))
 | (c,l,b)=>let a:=nth g c (zb xj);
 V (zA (c<i))
  (oI c g <|
 V (a.2.1==h)
  (oK [99,104,101,99,107,32] a.1 <|
 X (bz) λe =>
 .W (xe a.2.2.1 e.length) <|
 X (nt (Expr.mk (Expr.kind a.2.2.2.1) ((Expr.num a.2.2.2.1).1,((Expr.num a.2.2.2.1).2.1,((Expr.num a.2.2.2.1).2.2.1,()))) (Expr.name a.2.2.2.1) (Expr.kids a.2.2.2.1)) (nth e a.2.2.1 (zb .str)) (Expr.mk (Expr.kind a.2.2.2.2.1) ((Expr.num a.2.2.2.2.1).1,((Expr.num a.2.2.2.2.1).2.1,((Expr.num a.2.2.2.2.1).2.2.1,()))) (Expr.name a.2.2.2.2.1) (Expr.kids a.2.2.2.2.1))) λf =>
 oK (cat [99,104,101,99,107,32] a.1) f <|
 oC b <|
 U b <|
 X (xo (cat (cat [99,104,101,99,107,32] a.1) f) () b) λ(j,k,d) =>
 oC d <|
 U d <|
 Y (zG ((qo (c+1)),((),d))))
  (oC b <|
 U b <|
 Y (zG ((qo (c+1)),((),b)))))
  (oC b <|
 U b <|
 Y (zF ((),b)))
def nY i2 x3 x4 s:=zJ (o0 i2 x3 x4) s
def oQ(a:Form)(b:Int)(m:Unit)(g:z7):T (Unit×z7) :=
 let h:=cat [112,97,103,101,32] (nth a.2.2.1 b (zb xp)).1;  oI b a.2.2.1 <|
 oK [112,97,103,101,32] (nth a.2.2.1 b (zb xp)).1 <|
 oI b a.2.2.1 <|
 X (s6 (nth a.2.2.1 b (zb xp)).2.1) λc =>
 oK h c <|
 oK (cat h c) [10] <|
 oC g <|
 U g <|
 X (xo (cat (cat h c) [10]) () g) λ(i,j,d) =>
 oC d <|
 U d <|
 X (nX b a a.2.2.2.1 (a.2.2.2.1.length:Int) (0,((),d))) λ(k,e) =>
 oC e <|
 U e <|
 X (nY b a.2.2.2.2.2.1 (a.2.2.2.2.2.1.length:Int) (0,((),e))) λ(l,f) =>
 oC f <|
 U f <|
 Y ((),f)
def pA(v:Unit)(l:List Int):T (zx×Unit):=z3a l
def rW(k:Form)(e:qc)(g:Int):(Int×Unit×z7)->T ((Int×Unit×z7)⊕((Unit×z7)))
 | (b,j,a)=>let c:=nth e b (zb qq); let f:=bif c.2.1 then[32,111,110,10]else[32,111,102,102,10];
 V (zA (b<g))
  (oI b e <|
 oK [115,119,105,116,99,104,32] c.1 <|
 oK (cat [115,119,105,116,99,104,32] c.1) f <|
 oC a <|
 U a <|
 X (xo (cat (cat [115,119,105,116,99,104,32] c.1) f) () a) λ(h,i,d) =>
 oC d <|
 U d <|
 Y (zG ((qo (b+1)),((),d))))
  (oC a <|
 U a <|
 Y (zF ((),a)))
def rS f1 x x1 s:=zJ (rW f1 x x1) s
def rX(l:Form)(g:qg)(h:Int):(Int×Unit×z7)->T ((Int×Unit×z7)⊕((Unit×z7)))
 | (c,k,a)=>let b:=nth g c (zb qf); let d:=cat [112,97,114,97,109,32] b.1;
 V (zA (c<h))
  (oI c g <|
 oK [112,97,114,97,109,32] b.1 <|
 oK d [32] <|
 X (gp (b.2.1.1,(b.2.1.2.1,(b.2.1.2.2.1,())))) λe =>
 oK (cat d [32]) e <|
 oK (cat (cat d [32]) e) [10] <|
 oC a <|
 U a <|
 X (xo (cat (cat (cat d [32]) e) [10]) () a) λ(i,j,f) =>
 oC f <|
 U f <|
 Y (zG ((qo (c+1)),((),f))))
  (oC a <|
 U a <|
 Y (zF ((),a)))
def rT f2 x3 x4 s:=zJ (rX f2 x3 x4) s
def rY(d:Form)(e:Int):(Int×Unit×z7)->T ((Int×Unit×z7)⊕((Unit×z7)))
 | (c,g,a) =>
 V (zA (c<e))
  (oC a <|
 U a <|
 X (oQ d c () a) λ(f,b) =>
 oC b <|
 U b <|
 Y (zG ((qo (c+1)),((),b))))
  (oC a <|
 U a <|
 Y (zF ((),a)))
def rU f3 x6 s:=zJ (rY f3 x6) s
def rZ(i:xa)(j:Int):(Int×Unit×z7)->T ((Int×Unit×z7)⊕((Unit×z7)))
 | (d,m,b)=>let a:=nth i d (zb xl);
 V (zA (d<j))
  (oI d i <|
 X (kU) λe=>let c:=cat [114,117,108,101,32] (nth e a.2.1 (zb .str));
 .W (xe a.2.1 e.length) <|
 oK [114,117,108,101,32] (nth e a.2.1 (zb .str)) <|
 oK c [32] <|
 oK (cat c [32]) a.1 <|
 X (s6 a.2.2.1) λf =>
 oK (cat (cat c [32]) a.1) f <|
 X (nt (Expr.mk (Expr.kind a.2.2.2.1) ((Expr.num a.2.2.2.1).1,((Expr.num a.2.2.2.1).2.1,((Expr.num a.2.2.2.1).2.2.1,()))) (Expr.name a.2.2.2.1) (Expr.kids a.2.2.2.1)) [61] (Expr.mk (Expr.kind a.2.2.2.2.1) ((Expr.num a.2.2.2.2.1).1,((Expr.num a.2.2.2.2.1).2.1,((Expr.num a.2.2.2.2.1).2.2.1,()))) (Expr.name a.2.2.2.2.1) (Expr.kids a.2.2.2.2.1))) λh =>
 oK (cat (cat (cat c [32]) a.1) f) h <|
 oC b <|
 U b <|
 X (xo (cat (cat (cat (cat c [32]) a.1) f) h) () b) λ(k,l,g) =>
 oC g <|
 U g <|
 Y (zG ((qo (d+1)),((),g))))
  (oC b <|
 U b <|
 Y (zF ((),b)))
def rV x8 x9 s:=zJ (rZ x8 x9) s
def nq(a:Form):T zx :=
 oZ <|
 X (rS a a.1 (a.1.length:Int) (0,((),[]))) λ(g,b) =>
 oC b <|
 U b <|
 X (rT a a.2.1 (a.2.1.length:Int) (0,((),b))) λ(h,c) =>
 oC c <|
 U c <|
 X (rU a (a.2.2.1.length:Int) (0,((),c))) λ(i,d) =>
 oC d <|
 U d <|
 X (rV a.2.2.2.2.1 (a.2.2.2.2.1.length:Int) (0,((),d))) λ(j,e) =>
 oC e <|
 U e <|
 X (pA () e) λ(f,k) =>
 Y f
def Z6(a:Form):T Bool :=
 X (sX a) λb =>
 V b
  (X (oP a) λc =>
 V c
  (X (oO a) λd =>
 V d
  (X (nq a) λe =>
 Y (zA ((e.length:Int)<=16384)))
  (Y false))
  (Y false))
  (Y false)
def pL(e:Form)(c:qc)(d:Int):(Int×zo)->T ((Int×zo)⊕zo)
 | (b,a) =>
 V (zA (b<d))
  (oI b c <|
 oA a 16 <|
 oM (a.length+1) (a++([(nth c b (zb qq)).1]:List zx)).length <|
 Y (zG ((qo (b+1)),(a++([(nth c b (zb qq)).1]:List zx)))))
  (oC a <|
 U a <|
 Y (zF a))
def pF f1 x x1 s:=zJ (pL f1 x x1) s
def pM(e:Form)(c:qg)(d:Int):(Int×zo)->T ((Int×zo)⊕zo)
 | (b,a) =>
 V (zA (b<d))
  (oI b c <|
 oA a 16 <|
 oM (a.length+1) (a++([(nth c b (zb qf)).1]:List zx)).length <|
 Y (zG ((qo (b+1)),(a++([(nth c b (zb qf)).1]:List zx)))))
  (oC a <|
 U a <|
 Y (zF a))
def pG f2 x3 x4 s:=zJ (pM f2 x3 x4) s
def pN(e:Form)(c:xc)(d:Int):(Int×zo)->T ((Int×zo)⊕zo)
 | (b,a) =>
 V (zA (b<d))
  (oI b c <|
 oA a 16 <|
 oM (a.length+1) (a++([(nth c b (zb xp)).1]:List zx)).length <|
 Y (zG ((qo (b+1)),(a++([(nth c b (zb xp)).1]:List zx)))))
  (oC a <|
 U a <|
 Y (zF a))
def pH f3 x6 x7 s:=zJ (pN f3 x6 x7) s
def pO(e:Form)(c:qm)(d:Int):(Int×zo)->T ((Int×zo)⊕zo)
 | (b,a) =>
 V (zA (b<d))
  (oI b c <|
 oA a 16 <|
 oM (a.length+1) (a++([(nth c b (zb qu)).1]:List zx)).length <|
 Y (zG ((qo (b+1)),(a++([(nth c b (zb qu)).1]:List zx)))))
  (oC a <|
 U a <|
 Y (zF a))
def pI f4 x9 x10 s:=zJ (pO f4 x9 x10) s
def pP(e:Form)(c:xa)(d:Int):(Int×zo)->T ((Int×zo)⊕zo)
 | (b,a) =>
 V (zA (b<d))
  (oI b c <|
 oA a 16 <|
 oM (a.length+1) (a++([(nth c b (zb xl)).1]:List zx)).length <|
 Y (zG ((qo (b+1)),(a++([(nth c b (zb xl)).1]:List zx)))))
  (oC a <|
 U a <|
 Y (zF a))
def pJ f5 x12 x13 s:=zJ (pP f5 x12 x13) s
def pQ(c:qp)(d:Int):(Int×zo)->T ((Int×zo)⊕zo)
 | (b,a) =>
 V (zA (b<d))
  (oI b c <|
 oA a 16 <|
 oM (a.length+1) (a++([(nth c b (zb xj)).1]:List zx)).length <|
 Y (zG ((qo (b+1)),(a++([(nth c b (zb xj)).1]:List zx)))))
  (oC a <|
 U a <|
 Y (zF a))
def pK x15 x16 s:=zJ (pQ x15 x16) s
def su(a:Form):T zo :=
 oZ <|
 X (pF a a.1 (a.1.length:Int) (0,[])) λb =>
 oC b <|
 U b <|
 X (pG a a.2.1 (a.2.1.length:Int) (0,b)) λc =>
 oC c <|
 U c <|
 X (pH a a.2.2.1 (a.2.2.1.length:Int) (0,c)) λd =>
 oC d <|
 U d <|
 X (pI a a.2.2.2.1 (a.2.2.2.1.length:Int) (0,d)) λe =>
 oC e <|
 U e <|
 X (pJ a a.2.2.2.2.1 (a.2.2.2.2.1.length:Int) (0,e)) λf =>
 oC f <|
 U f <|
 X (pK a.2.2.2.2.2.1 (a.2.2.2.2.2.1.length:Int) (0,f)) λg =>
 U g <|
 Y (zH 0 (zI (0+g.length) g))
def twR:List zx->List zx->zx×Bool
 | _,[]=>([],false)
 | seen,x::r=>if x∈seen then(x,true)else twR (seen++[x]) r
def sw(l:List zx):T (zx×Bool):=.W (zO l*16<=140737488351232/\∀ s∈l,zO s<=9223372036854775807)<|Y (twR [] l)
def vR(a:Switch)(b:zx):T Bool :=
 Y (wK a.1 b)
def jO(a:zx)(d:Form):T Bool :=
 V (!(wK a []))
  (X (vE d.1 (λb=>vR b a)) λc =>
 Y (!c))
  (Y false)
def uM(b:zo)(d:zx->T Bool)(e:Int):Int->T (Int⊕(Unit⊕Int))
 | a =>
 V (zA (a<e))
  (oI a b <|
 X (d (nth b a (zb .str))) λc =>
 V c
  (Y (zF (zF a)))
  (Y (zG (qo (a+1)))))
  (Y (zF (zG ())))
def nw s1 f x s:=zJ (uM s1 f x) s
def wU(a:zo)(c:zx->T Bool):T Int :=
 X (nw a c (a.length:Int) 0) <|
 zK (λ_ =>
 Y (-1))
  (λb =>
 Y b)
def eO(e:Form)(c:xc)(d:Int):(Int×zo)->T ((Int×zo)⊕zo)
 | (b,a) =>
 V (zA (b<d))
  (oI b c <|
 oA a 16 <|
 oM (a.length+1) (a++([(nth c b (zb xp)).2.1]:List zx)).length <|
 Y (zG ((qo (b+1)),(a++([(nth c b (zb xp)).2.1]:List zx)))))
  (oC a <|
 U a <|
 Y (zF a))
def eM f1 x x1 s:=zJ (eO f1 x x1) s
def eP(e:Form)(c:xa)(d:Int):(Int×zo)->T ((Int×zo)⊕zo)
 | (b,a) =>
 V (zA (b<d))
  (oI b c <|
 oA a 16 <|
 oM (a.length+1) (a++([(nth c b (zb xl)).2.2.1]:List zx)).length <|
 Y (zG ((qo (b+1)),(a++([(nth c b (zb xl)).2.2.1]:List zx)))))
  (oC a <|
 U a <|
 Y (zF a))
def eN f2 x3 x4 s:=zJ (eP f2 x3 x4) s
def eB(b:Form):T (zx×Bool) :=
 oZ <|
 X (eM b b.2.2.1 (b.2.2.1.length:Int) (0,[])) λd =>
 oC d <|
 U d <|
 X (eN b b.2.2.2.2.1 (b.2.2.2.2.1.length:Int) (0,d)) λa =>
 U a <|
 X (wU (zH 0 (zI (0+a.length) a)) (λe=>jO e b)) λc =>
 V (zA (c<0))
  (Y ([],false))
  (oI c a <|
 .W (uN a.length a.length (0+(zE c)) a.length) <|
 Y ((wi a (0+(zE c)) (zb .str)),true))
def gm(b:zo)(c:zx)(d:Int):Int->T (Int⊕(Unit⊕Int))
 | a =>
 V (zA (a<d))
  (oI a b <|
 V (wK c (nth b a (zb .str)))
  (Y (zF (zF a)))
  (Y (zG (qo (a+1)))))
  (Y (zF (zG ())))
def gj s1 v1 x s:=zJ (gm s1 v1 x) s
def wD(a:zo)(c:zx):T Int :=
 X (gj a c (a.length:Int) 0) <|
 zK (λ_ =>
 Y (-1))
  (λb =>
 Y b)
def wJ(b:zo)(c:zx):T Bool :=
 X (wD b c) λa =>
 Y (zA (0<=a))
def eC(e:AM.Expr->zo->T zo)(d:cS)(f:Int):(Int×zo)->T ((Int×zo)⊕zo)
 | (b,a) =>
 V (zA (b<f))
  (oI b d <|
 oC a <|
 U a <|
 X (e (nth d b (zb .expr)) a) λc =>
 oC c <|
 U c <|
 Y (zG ((qo (b+1)),c)))
  (oC a <|
 U a <|
 Y (zF a))
def cf self_expr_names x1 x2 s:=zJ (eC self_expr_names x1 x2) s
def de(h:AM.Expr->zo->T zo)(c:AM.Expr)(a:zo):T zo :=
 X (X (V ((Expr.kind c)==2)
  (U a <|
 X (wJ (zH 0 (zI (0+a.length) a)) (Expr.name c)) λf =>
 oC a <|
 U a <|
 Y ((!f),a))
  (oC a <|
 U a <|
 Y (false,a)):T ((Bool×zo))) λ(g,b) =>
 V g
  (oA b 16 <|
 oM (b.length+1) (b++([(Expr.name c)]:List zx)).length <|
 Y (b++([(Expr.name c)]:List zx)))
  (oC b <|
 U b <|
 Y b):T zo) λd =>
 oC d <|
 U d <|
 X (cf h (Expr.kids c) ((Expr.kids c).length:Int) (0,d)) λe =>
 oC e <|
 U e <|
 Y e
def ow(e:AM.Expr)(l:zo):T zo:=T.fix (λF x=>de (λy0 y1=>F (y0,y1)) x.1 x.2) (e,l)
def lU(d:cS)(e:Int):(Int×zo)->T ((Int×zo)⊕zo)
 | (b,a) =>
 V (zA (b<e))
  (oI b d <|
 oC a <|
 U a <|
 X (ow (nth d b (zb .expr)) a) λc =>
 oC c <|
 U c <|
 Y (zG ((qo (b+1)),c)))
  (oC a <|
 U a <|
 Y (zF a))
def lT x1 x2 s:=zJ (lU x1 x2) s
def mF(c:AM.Expr)(a:zo):T zo :=
 X (X (V ((Expr.kind c)==2)
  (U a <|
 X (wJ (zH 0 (zI (0+a.length) a)) (Expr.name c)) λf =>
 oC a <|
 U a <|
 Y ((!f),a))
  (oC a <|
 U a <|
 Y (false,a)):T ((Bool×zo))) λ(g,b) =>
 V g
  (oA b 16 <|
 oM (b.length+1) (b++([(Expr.name c)]:List zx)).length <|
 Y (b++([(Expr.name c)]:List zx)))
  (oC b <|
 U b <|
 Y b):T zo) λd =>
 oC d <|
 U d <|
 X (lT (Expr.kids c) ((Expr.kids c).length:Int) (0,d)) λe =>
 oC e <|
 U e <|
 Y e
def dc(b:AM.Expr):T zo :=
 oZ <|
 X (mF b []) λa =>
 U a <|
 Y (zH 0 (zI (0+a.length) a))
def j7(l:List zo):T zo:=.W (zO l*24<=140737488351232/\zO (List.flatten l)*16<=140737488355328/\l≠[])<|Y (List.flatten l)
def uA(a:Param)(b:zx):T Bool :=
 Y (wK a.1 b)
def yr(a:zx)(e:zo)(f:Form):T Bool :=
 X (wJ e a) λb =>
 V (!b)
  (X (vO f.2.1 (λc=>uA c a)) λd =>
 Y (!d))
  (Y false)
def lK(i:Form)(j:zo)(d:qp)(h:Int):(zo×Int)->T ((zo×Int)⊕zo)
 | (c,b)=>let a:=nth d b (zb xj);
 V (zA (b<h))
  (oI b d <|
 X (dc (Expr.mk (Expr.kind a.2.2.2.1) ((Expr.num a.2.2.2.1).1,((Expr.num a.2.2.2.1).2.1,((Expr.num a.2.2.2.1).2.2.1,()))) (Expr.name a.2.2.2.1) (Expr.kids a.2.2.2.1))) λe =>
 X (dc (Expr.mk (Expr.kind a.2.2.2.2.1) ((Expr.num a.2.2.2.2.1).1,((Expr.num a.2.2.2.2.1).2.1,((Expr.num a.2.2.2.2.1).2.2.1,()))) (Expr.name a.2.2.2.2.1) (Expr.kids a.2.2.2.2.1))) λf =>
 X (j7 ([c,e,f]:List zo)) λg =>
 Y (zG (g,(qo (b+1)))))
  (Y (zF c))
def lI f1 fields1 x x1 s:=zJ (lK f1 fields1 x x1) s
def lL(i:Form)(j:zo)(d:xa)(h:Int):(zo×Int)->T ((zo×Int)⊕zo)
 | (c,b)=>let a:=nth d b (zb xl);
 V (zA (b<h))
  (oI b d <|
 X (dc (Expr.mk (Expr.kind a.2.2.2.1) ((Expr.num a.2.2.2.1).1,((Expr.num a.2.2.2.1).2.1,((Expr.num a.2.2.2.1).2.2.1,()))) (Expr.name a.2.2.2.1) (Expr.kids a.2.2.2.1))) λe =>
 X (dc (Expr.mk (Expr.kind a.2.2.2.2.1) ((Expr.num a.2.2.2.2.1).1,((Expr.num a.2.2.2.2.1).2.1,((Expr.num a.2.2.2.2.1).2.2.1,()))) (Expr.name a.2.2.2.2.1) (Expr.kids a.2.2.2.2.1))) λf =>
 X (j7 ([c,e,f]:List zo)) λg =>
 Y (zG (g,(qo (b+1)))))
  (Y (zF c))
def lJ f2 fields2 x3 x4 s:=zJ (lL f2 fields2 x3 x4) s
def mq(a:Form)(d:zo):T (zx×Bool) :=
 X (lI a d a.2.2.2.2.2.1 (a.2.2.2.2.2.1.length:Int) ([],0)) λe =>
 X (lJ a d a.2.2.2.2.1 (a.2.2.2.2.1.length:Int) (e,0)) λb =>
 X (wU b (λf=>yr f d a)) λc =>
 V (zA (c<0))
  (Y ([],false))
  (oI c b <|
 Y ((nth b c (zb .str)),true))
def bM(b:zx)(c:zo):T Bool :=
 X (wJ c b) λa =>
 Y a
def kz(b:zo)(c:zx->T Bool):T Bool :=
 X (wU b c) λa =>
 Y (zA (0<=a))
def tH(d:AM.Expr)(e:zo):T Bool :=
 X (dc d) λa =>
 X (kz a (λb=>bM b e)) λc =>
 Y c
def uX(b:AM.Expr->zo->T Bool)(c:AM.Expr)(d:zo):T Bool :=
 X (b c d) λa =>
 Y (!a)
def ye(f:AM.Expr->zo->T Bool)(b:cS)(d:AM.Expr->T Bool)(e:Int):Int->T (Int⊕(Unit⊕Int))
 | a =>
 V (zA (a<e))
  (oI a b <|
 X (d (nth b a (zb .expr))) λc =>
 V c
  (Y (zF (zF a)))
  (Y (zG (qo (a+1)))))
  (Y (zF (zG ())))
def cO self_check_Linear s1 f x s:=zJ (ye self_check_Linear s1 f x) s
def gT(c:AM.Expr->zo->T Bool)(a:cS)(d:AM.Expr->T Bool):T Int :=
 X (cO c a d (a.length:Int) 0) <|
 zK (λ_ =>
 Y (-1))
  (λb =>
 Y b)
def j9(b:AM.Expr->zo->T Bool)(c:cS)(d:AM.Expr->T Bool):T Bool :=
 X ((gT b) c d) λa =>
 Y (zA (0<=a))
def cU(e:AM.Expr->zo->T Bool)(a:AM.Expr)(d:zo):T Bool :=
 let c:=tH (nth (Expr.kids a) 1 (zb .expr)) d; let b:=((nth (Expr.kids a) 0 (zb .expr)),(nth (Expr.kids a) 1 (zb .expr)));  X (V (((Expr.kids a).length:Int)==2)
  (oI 0 (Expr.kids a) <|
 oI 1 (Expr.kids a) <|
 X (V ((Expr.kind a)==5)
  (X (tH (nth (Expr.kids a) 0 (zb .expr)) d) λf =>
 V f
  (X c λg =>
 V g
  (Y (true,b))
  (V ((Expr.kind a)==6)
  (X c λh =>
 Y (h,b))
  (Y (false,b))))
  (V ((Expr.kind a)==6)
  (X c λi =>
 Y (i,b))
  (Y (false,b))))
  (V ((Expr.kind a)==6)
  (X c λj =>
 Y (j,b))
  (Y (false,b))):T ((Bool×AM.Expr×AM.Expr))) λ(k,o,p) =>
 V k
  (Y (zF false))
  (Y (zG ())))
  (Y (zG ())):T (Unit⊕Bool)) <|
 zK (λ_ =>
 X ((j9 e) (Expr.kids a) (λl=>(uX e) l d)) λm =>
 Y (!m))
  (λn =>
 Y n)
def fB(e:AM.Expr)(fields:zo):T Bool:=T.fix (λF x=>cU (λy0 y1=>F (y0,y1)) x.1 x.2) (e,fields)
def nG(e:Form)(c:qm)(d:Int):(Int×zo)->T ((Int×zo)⊕zo)
 | (b,a) =>
 V (zA (b<d))
  (oI b c <|
 oA a 16 <|
 oM (a.length+1) (a++([(nth c b (zb qu)).1]:List zx)).length <|
 Y (zG ((qo (b+1)),(a++([(nth c b (zb qu)).1]:List zx)))))
  (oC a <|
 U a <|
 Y (zF a))
def nE f1 x x1 s:=zJ (nG f1 x x1) s
def nH(e:xa)(j:Int):(Int×zo)->T ((Int×zo)⊕(zo⊕(Int×zx×zo)))
 | (d,a)=>let b:=nth e d (zb xl);
 V (zA (d<j))
  (oI d e <|
 X (U a <|
 X (fB (Expr.mk (Expr.kind b.2.2.2.1) ((Expr.num b.2.2.2.1).1,((Expr.num b.2.2.2.1).2.1,((Expr.num b.2.2.2.1).2.2.1,()))) (Expr.name b.2.2.2.1) (Expr.kids b.2.2.2.1)) (zH 0 (zI (0+a.length) a))) λf =>
 V (!f)
  (oC a <|
 U a <|
 Y (true,(a,b)))
  (U a <|
 X (fB (Expr.mk (Expr.kind b.2.2.2.2.1) ((Expr.num b.2.2.2.2.1).1,((Expr.num b.2.2.2.2.1).2.1,((Expr.num b.2.2.2.2.1).2.2.1,()))) (Expr.name b.2.2.2.2.1) (Expr.kids b.2.2.2.2.1)) (zH 0 (zI (0+a.length) a))) λg =>
 oC a <|
 U a <|
 Y ((!g),(a,b))):T ((Bool×zo×dW))) λ(h,c,i) =>
 V h
  (U c <|
 Y (zF (zF (6,(i.1,c)))))
  (oC c <|
 U c <|
 Y (zG ((qo (d+1)),c))))
  (U a <|
 Y (zF (zG a)))
def nF x3 x4 s:=zJ (nH x3 x4) s
def fD(a:Form):T (Int×zx) :=
 X (Z6 a) λc =>
 V (!c)
  (Y (2,[]))
  (V ((zA (64<(a.2.2.2.1.length:Int)))||(zA (64<(a.2.2.2.2.1.length:Int))))
  (Y (3,[]))
  (X (su a) λd =>
 X (sw d) λ(e,f) =>
 V f
  (Y (5,e))
  (X (eB a) λ(g,h) =>
 V h
  (Y (5,g))
  (oZ <|
 X (nE a a.2.2.2.1 (a.2.2.2.1.length:Int) (0,[])) λb =>
 U b <|
 X (mq a (zH 0 (zI (0+b.length) b))) λ(i,j) =>
 V j
  (Y (5,i))
  (oC b <|
 U b <|
 X (nF a.2.2.2.2.1 (a.2.2.2.2.1.length:Int) (0,b)) <|
 zK (λm =>
 Y (0,[]))
  (λ(k,l,n) =>
 Y (k,l)))))))
def sV(a:Form):T zx :=
 X (Z6 a) λb =>
 V (!b)
  (Y [])
  (X (nq a) λc =>
 Y c)
def strings_Split(a:zx)(b:zx):T zo :=
 .W (a.length<4294967281/\b.length=1) <|
 Y (l9 (List.headD b 0) a)
def strings_Cut(a:zx)(b:zx):T (zx×zx×Bool) :=
 .W (a.length<4294967281) <|
 Y (DZ a b)
def s7(a:Int):T Bool :=
 Y (a==32)
def strings_FieldsFunc(a:zx)(b:Int->T Bool):T zo :=
 .W (a.length<=4294967296) <|
 Y (sd 32 [] a)
def sY(c:zx):T zo :=
 X (strings_FieldsFunc c (λa=>s7 a)) λb =>
 Y b
def strings_IndexAny(c:zx)(a:zx):T Int :=
 .W (c.length<4294967281/\2<=a.length/\a.length<4294967281/\(∀ b∈a,b.toNat<128)) <|
 Y (rf c a)
def jT(b:zx)(a:zx):T Bool :=
 .W (((zA ((a.length:Int)<=(b.length:Int)))=true)->(jy 0 (a.length:Int) b.length)) <|
 Y ((zA ((a.length:Int)<=(b.length:Int)))&&(wK (fG 0 (a.length:Int) b) a))
def strings_HasPrefix(b:zx)(c:zx):T Bool :=
 X (jT b c) λa =>
 Y a
def bq  : zc->T (zc⊕(zc))
 | a =>
 .W (((zA (a.2.1<(a.1.length:Int)))=true)->(xe a.2.1 a.1.length)) <|
 V ((zA (a.2.1<(a.1.length:Int)))&&((uq a.1 a.2.1)==32))
  (Y (zG (a.1,((qo (a.2.1+1)),(a.2.2.1,(a.2.2.2.1,()))))))
  (Y (zF a))
def bp(s:zc):T (zc):=zJ (bq ) s
def dh(b:zc):T zc :=
 X (bp  b) λa =>
 Y a
def strings_IndexByte(s:zx)(c:Int):T Int:=Y (U1 s (byteOf c))
def uB(e:zx)(f:zc):T (Int×zc) :=
 X (dh f) λb =>
 X (V (zA (b.2.1<(b.1.length:Int)))
  (oI b.2.1 b.1 <|
 X (strings_IndexByte e (uq b.1 b.2.1)) λc =>
 Y ((zA (0<=c)),b))
  (Y (false,b)):T ((Bool×zc))) λ(d,a) =>
 V d
  (oI (qo ((qo (a.2.1+1))-1)) a.1 <|
 Y ((uq a.1 (qo ((qo (a.2.1+1))-1))),(a.1,((qo (a.2.1+1)),(a.2.2.1,(a.2.2.2.1,()))))))
  (Y (0,a))
def vn(a:Int)(b:Int)(c:zc):T (zc⊕(xh×zc)) :=
 Y (zF ((a,(b,())),c))
def ku(a:zc):T (zc⊕(xh×zc)) :=
 V (zA (32<=(qo (a.2.2.1+1))))
  (X (vn 4 (qo (a.2.1-1)) (a.1,(a.2.1,((qo (a.2.2.1+1)),(a.2.2.2.1,()))))) <|
 zK (λb =>
 Y (zG b))
  (λ(c,d) =>
 Y (zF (c,d))))
  (Y (zG (a.1,(a.2.1,((qo (a.2.2.1+1)),(a.2.2.2.1,()))))))
def y9(e:Int->T Bool)(f:Int)(g:Int):zc->T (zc⊕(zc))
 | a =>
 X (V (zA (a.2.1<(a.1.length:Int)))
  (V (zA ((qo (a.2.1-g))<f))
  (oI a.2.1 a.1 <|
 X (e (uq a.1 a.2.1)) λc =>
 Y (c,a))
  (Y (false,a)))
  (Y (false,a)):T ((Bool×zc))) λ(d,b) =>
 V d
  (Y (zG (b.1,((qo (b.2.1+1)),(b.2.2.1,(b.2.2.2.1,()))))))
  (Y (zF b))
def bR is most1 from_ s:=zJ (y9 is most1 from_) s
def uC(c:Int->T Bool)(d:Int)(b:zc):T (zx×zc) :=
 X (bR c d b.2.1 b) λa =>
 .W (jy b.2.1 a.2.1 a.1.length) <|
 Y ((fG b.2.1 a.2.1 a.1),a)
def strings_CutPrefix(a:zx)(b:zx):T (zx×Bool) :=
 Y (Da a b,List.isPrefixOf b a)
def gW(c:Int):zx->T (zx⊕zx)
 | a=>let b:=qo ((a.length:Int)-1);
 .W (((zA (0<(a.length:Int)))=true)->(xe b a.length)) <|
 V ((zA (0<(a.length:Int)))&&((uq a b)==c))
  (.W (jy 0 b a.length) <|
 Y (zG (fG 0 b a)))
  (Y (zF a))
def gV c1 s:=zJ (gW c1) s
def strings_trimRightByte(b:zx)(c:Int):T zx :=
 X (gV c b) λa =>
 Y a
def bD(b:Int):zx->T (zx⊕zx)
 | a =>
 .W (((zA (0<(a.length:Int)))=true)->(xe 0 a.length)) <|
 V ((zA (0<(a.length:Int)))&&((uq a 0)==b))
  (.W (jy 1 (a.length:Int) a.length) <|
 Y (zG (fG 1 (a.length:Int) a)))
  (Y (zF a))
def bC c1 s:=zJ (bD c1) s
def strings_trimLeftByte(b:zx)(c:Int):T zx :=
 X (bC c b) λa =>
 Y a
def strings_makeASCIISet(a:zx):T ((den (mL .bool 256))×Bool) :=
 .W (a.length<4294967281/\(∀ (j:Nat) b,a[j]? = some b->b.toNat<128)) <|
 Y (lE a,true)
def vf(b:(den (mL .bool 256)))(a:Int):T Bool :=
 .W (xe a 256) <|
 Y (Wt .bool (mL .bool 256) b (zE a))
def uz(d:(den (mL .bool 256))):zx->T (zx⊕zx)
 | a=>let b:=qo ((a.length:Int)-1);
 V (zA (0<(a.length:Int)))
  (oI b a <|
 X (vf d (uq a b)) λc =>
 V (!c)
  (Y (zF a))
  (.W (jy 0 b a.length) <|
 Y (zG (fG 0 b a))))
  (Y (zF a))
def jF as1 s:=zJ (uz as1) s
def jt(b:zx)(c:(den (mL .bool 256))):T zx :=
 X (jF c b) λa =>
 Y a
def uV(c:(den (mL .bool 256))):zx->T (zx⊕zx)
 | a =>
 V (zA (0<(a.length:Int)))
  (oI 0 a <|
 X (vf c (uq a 0)) λb =>
 V (!b)
  (Y (zF a))
  (.W (jy 1 (a.length:Int) a.length) <|
 Y (zG (fG 1 (a.length:Int) a))))
  (Y (zF a))
def ki as1 s:=zJ (uV as1) s
def jL(b:zx)(c:(den (mL .bool 256))):T zx :=
 X (ki c b) λa =>
 Y a
def ca(b:zx)(a:zx):T zx :=
 V ((wK b [])||(wK a []))
  (Y b)
  (.W ((((a.length:Int)==1)=true)->(xe 0 a.length)) <|
 V (((a.length:Int)==1)&&(zA ((uq a 0)<128)))
  (oI 0 a <|
 X (strings_trimRightByte b (uq a 0)) λd =>
 oI 0 a <|
 X (strings_trimLeftByte d (uq a 0)) λe =>
 Y e)
  (X (strings_makeASCIISet a) λ(c,f) =>
 V f
  (X (jt b c) λg =>
 X (jL g c) λh =>
 Y h)
  (.fail)))
def V4(h:z7)(c:z7)(e:z7)(g:Int):(Int×Int×z7)->T ((Int×Int×z7)⊕((Int×z7)))
 | (d,a,b)=>let f:=bif (zA (a<(c.length:Int)))then(wh ((wh (d+(wh (nth e a (zb (.int .u32))))))+(wh (nth c a (zb (.int .u32))))))else(wh (d+(wh (nth e a (zb (.int .u32))))));
 V (zA (a<g))
  (oI a e <|
 .W (((zA (a<(c.length:Int)))=true)->(xe a c.length)) <|
 oI a b <|
 .W (uN b.length b.length (0+(zE a)) b.length) <|
 .W (0<=(32:Int)) <|
 oM b.length (zL b (0+(zE a)) (gK f)).length <|
 Y (zG ((jj .u64 f 32),((qo (a+1)),(zL b (0+(zE a)) (gK f))))))
  (oC b <|
 U b <|
 Y (zF (d,b)))
def V3 a2 b2 x x1 s:=zJ (V4 a2 b2 x x1) s
def Uc(h:z7)(i:z7):T z7 :=
 X (vV h) λc =>
 X (vV i) λd=>let e:=bif (zA ((c.length:Int)<(d.length:Int)))then d else c; let a:=(e.length:Int);
 .W (ez (qo (a+1)) (qo (a+1)) 4) <|
 oM (zE (qo (a+1))) (zM (zE (qo (a+1))) (0:Int)).length <|
 X (V3 e (bif (zA ((c.length:Int)<(d.length:Int)))then c else d) e a (0,(0,(zM (zE (qo (a+1))) 0)))) λ(f,b) =>
 oI a b <|
 .W (uN b.length b.length (0+(zE a)) b.length) <|
 U b <|
 X (vV (zH 0 (zI (0+b.length) (zL b (0+(zE a)) (gK f))))) λg =>
 Y g
def ZS(c:zx)(g:Int):(z7×Int)->T ((z7×Int)⊕z7)
 | (b,a) =>
 V (zA (a<g))
  (X (ir b ([10]:List Int)) λd =>
 oI a c <|
 X (iu (wh (wu8 ((uq c a)-48)))) λe =>
 X (Uc d e) λf =>
 Y (zG (f,(qo (a+1)))))
  (Y (zF b))
def ZR s1 x1 s:=zJ (ZS s1 x1) s
def lY(a:zx):T (z7×Bool) :=
 X (V (wK a [])
  (Y true)
  (V (zA (400<(a.length:Int)))
  (Y true)
  (X (ca a [48,49,50,51,52,53,54,55,56,57]) λb =>
 Y (!(wK b [])))):T Bool) λc =>
 V c
  (Y ([],false))
  (X (ZR a (a.length:Int) ([],0)) λd =>
 Y (d,true))
def p8(f:zx):T (Rat×Int) :=
 V (zA (400<(f.length:Int)))
  (Y ((false,(([]:List Int),(([]:List Int),()))),3))
  (X (strings_CutPrefix f [45]) λ(c,d) =>
 X (strings_Cut c [46]) λ(b,a,g) =>
 V g
  (X (lY a) λ(t,h) =>
 oK b a <|
 X (lY (cat b a)) λ(i,j) =>
 V ((wK b [])||((!h)||(!j)))
  (Y ((false,(([]:List Int),(([]:List Int),()))),2))
  (X (VK (a.length:Int)) λk =>
 X (rM d i k) λl =>
 Y (l,0)))
  (X (strings_Cut c [47]) λ(m,n,o) =>
 X (lY m) λ(p,q) =>
 X (lY (bif (!o)then[49]else n)) λ(e,r) =>
 V ((!q)||((!r)||((e.length:Int)==0)))
  (Y ((false,(([]:List Int),(([]:List Int),()))),2))
  (X (rM d p e) λs =>
 Y (s,0))))
def kt(i:zc):T ((AM.Expr×zc)⊕(xh×zc)) :=
 X (uC (λe=>jZ e) (i.1.length:Int) i) λ(c,a) =>
 X (.W (((zA (a.2.1<(a.1.length:Int)))=true)->(xe a.2.1 a.1.length)) <|
 V ((zA (a.2.1<(a.1.length:Int)))&&((uq a.1 a.2.1)==46))
  (X (uC (λe=>jZ e) (a.1.length:Int) (a.1,((qo (a.2.1+1)),(a.2.2.1,(a.2.2.2.1,()))))) λ(b,f) =>
 V (wK b [])
  (X (vn 2 f.2.1 f) <|
 zK (λj =>
 oK [46] b <|
 oK c (cat [46] b) <|
 Y (zG ((cat c (cat [46] b)),(j,(Expr.mk 0 (false,([],([],()))) [] [])))))
  (λ(k,l) =>
 Y (zF (k,(l,(Expr.mk 0 (false,([],([],()))) [] []))))))
  (oK [46] b <|
 oK c (cat [46] b) <|
 Y (zG ((cat c (cat [46] b)),(f,(Expr.mk 0 (false,([],([],()))) [] []))))))
  (Y (zG (c,(a,(Expr.mk 0 (false,([],([],()))) [] []))))):T ((zx×zc×AM.Expr)⊕(xh×zc×AM.Expr))) <|
 zK (λ(h,d,o) =>
 V (zA (400<(h.length:Int)))
  (Y (zG ((Expr.mk 1 (false,([],([],()))) [] []),(d.1,(d.2.1,(d.2.2.1,(true,())))))))
  (X (p8 h) λ(g,p) =>
 Y (zG ((Expr.mk 1 (g.1,(g.2.1,(g.2.2.1,()))) [] []),d))))
  (λ(m,n,q) =>
 Y (zF (m,n)))
def uu(zD:zc->T ((AM.Expr×zc)⊕(xh×zc)))(zk:zc->T ((AM.Expr×zc)⊕(xh×zc)))(zC:zc):T ((AM.Expr×zc)⊕(xh×zc)) :=
 X (uB [45,40] zC) λ(h,a)=>let j:=(a,(Expr.mk 0 (false,([],([],()))) [] []));
 V (h==45)
  (X (ku a) <|
 zK (λk =>
 X (zD k) <|
 zK (λ(l,c) =>
 Y (zG ((Expr.mk 7 (false,([],([],()))) [] [l]),(c.1,(c.2.1,((qo (c.2.2.1-1)),(c.2.2.2.1,())))))))
  (λ(m,n) =>
 Y (zF (m,n))))
  (λ(o,p) =>
 Y (zF (o,p))))
  (V (h==40)
  (X (ku a) <|
 zK (λq =>
 X (zk q) <|
 zK (λ(r,s)=>let g:=((Expr.mk 0 (false,([],([],()))) [] []),r);
 X (X (uB [41] s) λ(t,e) =>
 V (t==0)
  (X (vn 2 e.2.1 e) <|
 zK (λu =>
 Y (zG (u,g)))
  (λ(v,w) =>
 Y (zF (v,(w,g)))))
  (Y (zG (e,g))):T ((zc×AM.Expr×AM.Expr)⊕(xh×zc×AM.Expr×AM.Expr))) <|
 zK (λ(d,zB,x) =>
 Y (zG (x,(d.1,(d.2.1,((qo (d.2.2.1-1)),(d.2.2.2.1,())))))))
  (λ(y,z,z6,aa) =>
 Y (zF (y,z))))
  (λ(A,hI) =>
 Y (zF (A,hI))))
  (λ(C,D) =>
 Y (zF (C,D))))
  (X (V (zA (a.2.1<(a.1.length:Int)))
  (oI a.2.1 a.1 <|
 X (jZ (uq a.1 a.2.1)) λκ' =>
 Y (κ',j))
  (Y (false,j)):T ((Bool×zc×AM.Expr))) λ(G,b,i) =>
 V G
  (X (kt b) <|
 zK (λ(H,hb) =>
 Y (zG (H,hb)))
  (λ(hd,K) =>
 Y (zF (hd,K))))
  (X (V (zA (b.2.1<(b.1.length:Int)))
  (oI b.2.1 b.1 <|
 X (cp (uq b.1 b.2.1)) λL =>
 Y (L,(b,i)))
  (Y (false,(b,i))):T ((Bool×zc×AM.Expr))) λ(h2,f,ab) =>
 V h2
  (X (uC (λhx=>bQ hx) 24 f) λ(κ,P) =>
 Y (zG ((Expr.mk 2 (false,([],([],()))) κ []),P)))
  (X (vn 2 f.2.1 f) <|
 zK (λhl =>
 Y (zG ((Expr.mk 0 (false,([],([],()))) [] []),hl)))
  (λ(S,oE) =>
 Y (zF (S,oE)))))))
def vC(kv:zc->T ((AM.Expr×zc)⊕(xh×zc)))(p:zc):T ((AM.Expr×zc)⊕(xh×zc)):=T.fix (λF x=>uu (λy0=>F (y0)) kv x) p
def vd(l:zc->T ((AM.Expr×zc)⊕(xh×zc)))(f:zx)(m:xh):(zc×AM.Expr×AM.Expr)->T ((zc×AM.Expr×AM.Expr)⊕((zc×AM.Expr×AM.Expr)⊕(xh×zc×AM.Expr×AM.Expr)))
 | (k,e,a) =>
 X (uB f k) λ(b,c) =>
 V (b==0)
  (Y (zF (zG (c,(a,a)))))
  (X ((vC l) c) <|
 zK (λ(g,h) =>
 X (strings_IndexByte f b) λd =>
 .W (xe d 2) <|
 Y (zG (h,(e,(Expr.mk (Wt (.int .i64) uk m (zE d)) (false,([],([],()))) [] [a,g])))))
  (λ(i,j) =>
 Y (zF (zF (i,(j,(e,a)))))))
def vb kv marks1 kinds1 s:=zJ (vd kv marks1 kinds1) s
def wq(a:zc->T ((AM.Expr×zc)⊕(xh×zc)))(p:Unit)(j:zx)(k:xh)(l:zc):T ((AM.Expr×zc)⊕(xh×zc)) :=
 X ((vC a) l) <|
 zK (λ(b,c) =>
 X (vb a j k (c,((Expr.mk 0 (false,([],([],()))) [] []),b))) <|
 zK (λ(d,e,m) =>
 Y (zG (e,d)))
  (λ(f,g,n,o) =>
 Y (zF (f,g))))
  (λ(h,i) =>
 Y (zF (h,i)))
def vt(e:zc->T ((AM.Expr×zc)⊕(xh×zc)))(f:zc):T ((AM.Expr×zc)⊕(xh×zc)) :=
 X ((wq e) () [42,47] ((5:Int),((6:Int),())) f) <|
 zK (λ(a,b) =>
 Y (zG (a,b)))
  (λ(c,d) =>
 Y (zF (c,d)))
def wW(l:zc->T ((AM.Expr×zc)⊕(xh×zc)))(f:zx)(m:xh):(zc×AM.Expr×AM.Expr)->T ((zc×AM.Expr×AM.Expr)⊕((zc×AM.Expr×AM.Expr)⊕(xh×zc×AM.Expr×AM.Expr)))
 | (k,e,a) =>
 X (uB f k) λ(b,c) =>
 V (b==0)
  (Y (zF (zG (c,(a,a)))))
  (X ((vt l) c) <|
 zK (λ(g,h) =>
 X (strings_IndexByte f b) λd =>
 .W (xe d 2) <|
 Y (zG (h,(e,(Expr.mk (Wt (.int .i64) uk m (zE d)) (false,([],([],()))) [] [a,g])))))
  (λ(i,j) =>
 Y (zF (zF (i,(j,(e,a)))))))
def wV kv marks1 kinds1 s:=zJ (wW kv marks1 kinds1) s
def wk(a:zc->T ((AM.Expr×zc)⊕(xh×zc)))(p:Unit)(j:zx)(k:xh)(l:zc):T ((AM.Expr×zc)⊕(xh×zc)) :=
 X ((vt a) l) <|
 zK (λ(b,c) =>
 X (wV a j k (c,((Expr.mk 0 (false,([],([],()))) [] []),b))) <|
 zK (λ(d,e,m) =>
 Y (zG (e,d)))
  (λ(f,g,n,o) =>
 Y (zF (f,g))))
  (λ(h,i) =>
 Y (zF (h,i)))
def kV(e:zc->T ((AM.Expr×zc)⊕(xh×zc)))(f:zc):T ((AM.Expr×zc)⊕(xh×zc)) :=
 X ((wk e) () [43,45] ((3:Int),((4:Int),())) f) <|
 zK (λ(a,b) =>
 Y (zG (a,b)))
  (λ(c,d) =>
 Y (zF (c,d)))
def cJ(p:zc):T ((AM.Expr×zc)⊕(xh×zc)):=T.fix (λF x=>kV (λy0=>F (y0)) x) p
def gE(a:AM.Expr)(b:Int)(c:Int):T (AM.Expr×Int×Int) :=
 V false
  (.fail)
  (Y (a,(b,c)))
def yS(a:xh)(b:AM.Expr)(c:Int)(d:Int):T (AM.Expr×Int×Int) :=
 V true
  (V (!true)
  (.fail)
  (Y ((Expr.mk 0 (false,([],([],()))) [] []),(a.2.1,a.1))))
  (Y (b,(c,d)))
def ig(t:zc):T (AM.Expr×Int×Int×zc) :=
 X (cJ t) <|
 zK (λ(b,a) =>
 V (zA (a.2.1<(a.1.length:Int)))
  (X (vn 2 a.2.1 a) <|
 zK (λc =>
 X (gE b 0 0) λ(d,e,f) =>
 Y (d,(e,(f,c))))
  (λ(g,h) =>
 X (yS g b 0 0) λ(i,j,k) =>
 Y (i,(j,(k,h)))))
  (X (gE b 0 0) λ(l,m,n) =>
 Y (l,(m,(n,a)))))
  (λ(o,p) =>
 X (yS o (Expr.mk 0 (false,([],([],()))) [] []) 0 0) λ(q,r,s) =>
 Y (q,(r,(s,p))))
def r7(i:zx):T (AM.Expr×Int×Int) :=
 X (ig (i,((0:Int),((0:Int),(false,()))))) λ(a,e,b,c)=>let d:=((Expr.mk 0 (false,([],([],()))) [] []),(c,a));
 V (b != 0)
  (Y ((Expr.mk 0 (false,([],([],()))) [] []),(e,b)))
  (X (V c.2.2.2.1
  (Y (true,d))
  (X (fZ a) λf =>
 Y ((!f),d)):T ((Bool×AM.Expr×zc×AM.Expr))) λ(g,j,k,h) =>
 V g
  (Y ((Expr.mk 0 (false,([],([],()))) [] []),(0,3)))
  (Y (h,(0,0))))
def strings_Contains(a:zx)(b:zx):T Bool :=
 .W (a.length<4294967281) <|
 Y (zA (0<=Ym a b))
def dx(b:zx)(v:zx):T (AM.Expr×AM.Expr×zx×Int) :=
 X (strings_IndexAny b [60,61]) λa=>let c:=fG (qo (a+1)) (b.length:Int) b;
 V (zA (a<0))
  (Y ((Expr.mk 0 (false,([],([],()))) [] []),((Expr.mk 0 (false,([],([],()))) [] []),([],2))))
  (.W (jy 0 a b.length) <|
 .W (jy (qo (a+1)) (b.length:Int) b.length) <|
 .W (jy a (qo (a+1)) b.length) <|
 X (X (V (wK (fG a (qo (a+1)) b) [60])
  (X (strings_HasPrefix c [61]) λm =>
 Y (m,((Expr.mk 0 (false,([],([],()))) [] []),(Expr.mk 0 (false,([],([],()))) [] []))))
  (Y (false,((Expr.mk 0 (false,([],([],()))) [] []),(Expr.mk 0 (false,([],([],()))) [] [])))):T ((Bool×AM.Expr×AM.Expr))) λ(n,e,f) =>
 V n
  (.W (jy 1 (c.length:Int) c.length) <|
 Y ([60,61],((fG 1 (c.length:Int) c),(e,f))))
  (Y ((fG a (qo (a+1)) b),(c,(e,f)))):T ((zx×zx×AM.Expr×AM.Expr))) λ(g,o,w,p) =>
 X (r7 (fG 0 a b)) λ(d,x,h) =>
 V (h != 0)
  (Y (d,(p,([],h))))
  (X (X (r7 o) λ(i,y,j) =>
 X (V (j==0)
  (X (strings_Contains v g) λq =>
 Y ((!q),(d,i)))
  (Y (false,(d,i))):T ((Bool×AM.Expr×AM.Expr))) λ(r,k,l) =>
 V r
  (Y (2,(k,l)))
  (Y (j,(k,l))):T ((Int×AM.Expr×AM.Expr))) λ(s,t,u) =>
 Y (t,(u,(g,s)))))
def np(a:zo)(b:Int)(c:Int)(d:zx):T Bool :=
 .W ((((a.length:Int)==b)=true)->(xe c a.length)) <|
 Y (((a.length:Int)==b)&&(wK (nth a c (zb .str)) d))
def nn(b:zo)(a:Int):T (zx×Bool) :=
 V ((b.length:Int)==a)
  (Y ([],true))
  (X (X (np b (qo (a+2)) a [119,104,101,110]) λc =>
 V c
  (oI (qo (a+1)) b <|
 X (uP (nth b (qo (a+1)) (zb .str))) λd =>
 Y d)
  (Y false):T Bool) λe =>
 V e
  (oI (qo (a+1)) b <|
 Y ((nth b (qo (a+1)) (zb .str)),true))
  (Y ([],false)))
def ba(i:zo)(x:zx)(z:Unit)(k:qc)(l:qg)(j:xc)(m:qm)(n:xa)(o:qp):T (Int×Unit×qc×qg×xc×qm×xa×qp) :=
 let p:=((),(k,(l,(j,(m,(n,o))))));  X (V ((i.length:Int) != 2)
  (oY k l j m n o <|
 Y (true,p))
  (oI 1 i <|
 X (uP (nth i 1 (zb .str))) λr =>
 V (!r)
  (oY k l j m n o <|
 Y (true,p))
  (oY k l j m n o <|
 Y (((j.length:Int)==0),p))):T ((Bool×Unit×qc×qg×xc×qm×xa×qp))) λ(s,y,e,f,b,g,h,a) =>
 V s
  (oY e f b g h a <|
 Y (2,((),(e,(f,(b,(g,(h,a))))))))
  (oI 1 i <|
 X (dx x [60,61]) λ(c,d,t,u) =>
 X (bz) λv =>
 X (wD v t) λw=>let q:=a++([((nth i 1 (zb .str)),((qo ((b.length:Int)-1)),(w,((Expr.mk (Expr.kind c) ((Expr.num c).1,((Expr.num c).2.1,((Expr.num c).2.2.1,()))) (Expr.name c) (Expr.kids c)),((Expr.mk (Expr.kind d) ((Expr.num d).1,((Expr.num d).2.1,((Expr.num d).2.2.1,()))) (Expr.name d) (Expr.kids d)),())))))]:List Check);
 oA a 240 <|
 oC e <|
 oC f <|
 oC b <|
 oC g <|
 oC h <|
 .W (zu (a.length+1) 0 (a.length+1) q.length) <|
 U e <|
 U f <|
 U b <|
 U g <|
 U h <|
 .W ((a.length+1)=q.length) <|
 Y (u,((),(e,(f,(b,(g,(h,q))))))))
def bZ(a:zo)(A:zx)(D:Unit)(j:qc)(k:qg)(l:xc)(m:qm)(n:xa)(o:qp):T (Int×Unit×qc×qg×xc×qm×xa×qp) :=
 let p:=((),(j,(k,(l,(m,(n,o))))));  X (V (zA ((a.length:Int)<3))
  (oY j k l m n o <|
 Y (true,p))
  (X (kU) λr =>
 oI 1 a <|
 X (wJ r (nth a 1 (zb .str))) λs =>
 V (!s)
  (oY j k l m n o <|
 Y (true,p))
  (oI 2 a <|
 X (uP (nth a 2 (zb .str))) λt =>
 oY j k l m n o <|
 Y ((!t),p))):T ((Bool×Unit×qc×qg×xc×qm×xa×qp))) λ(u,hI,c,d,e,f,b,g) =>
 V u
  (oY c d e f b g <|
 Y (2,((),(c,(d,(e,(f,(b,g))))))))
  (X (nn a 3) λ(v,w) =>
 V (!w)
  (oY c d e f b g <|
 Y (2,((),(c,(d,(e,(f,(b,g))))))))
  (oI 2 a <|
 X (kU) λx =>
 oI 1 a <|
 X (wD x (nth a 1 (zb .str))) λy =>
 X (dx A [61]) λ(h,i,C,z)=>let q:=b++([((nth a 2 (zb .str)),(y,(v,((Expr.mk (Expr.kind h) ((Expr.num h).1,((Expr.num h).2.1,((Expr.num h).2.2.1,()))) (Expr.name h) (Expr.kids h)),((Expr.mk (Expr.kind i) ((Expr.num i).1,((Expr.num i).2.1,((Expr.num i).2.2.1,()))) (Expr.name i) (Expr.kids i)),())))))]:List dW);
 oA b 248 <|
 oC c <|
 oC d <|
 oC e <|
 oC f <|
 .W (zu (b.length+1) 0 (b.length+1) q.length) <|
 oC g <|
 U c <|
 U d <|
 U e <|
 U f <|
 .W ((b.length+1)=q.length) <|
 U g <|
 Y (z,((),(c,(d,(e,(f,(q,g)))))))))
def bX(a:zo)(s:Unit)(h:qc)(i:qg)(j:xc)(k:qm)(l:xa)(m:qp):T (Bool×Unit×qc×qg×xc×qm×xa×qp) :=
 let n:=((),(h,(i,(j,(k,(l,m))))));  X (V ((a.length:Int) != 3)
  (oY h i j k l m <|
 Y (true,n))
  (oI 1 a <|
 X (uP (nth a 1 (zb .str))) λp =>
 V (!p)
  (oY h i j k l m <|
 Y (true,n))
  (oI 2 a <|
 V (!(wK (nth a 2 (zb .str)) [111,110]))
  (oI 2 a <|
 oY h i j k l m <|
 Y ((!(wK (nth a 2 (zb .str)) [111,102,102])),n))
  (oY h i j k l m <|
 Y (false,n)))):T ((Bool×Unit×qc×qg×xc×qm×xa×qp))) λ(q,r,b,c,d,e,f,g)=>let o:=b++([((nth a 1 (zb .str)),((wK (nth a 2 (zb .str)) [111,110]),()))]:List Switch);
 V q
  (oY b c d e f g <|
 Y (false,((),(b,(c,(d,(e,(f,g))))))))
  (oI 1 a <|
 oI 2 a <|
 oA b 24 <|
 .W (zu (b.length+1) 0 (b.length+1) o.length) <|
 oC c <|
 oC d <|
 oC e <|
 oC f <|
 oC g <|
 .W ((b.length+1)=o.length) <|
 U c <|
 U d <|
 U e <|
 U f <|
 U g <|
 Y (true,((),(o,(c,(d,(e,(f,g))))))))
def cM(b:zo)(t:Unit)(h:qc)(i:qg)(j:xc)(k:qm)(l:xa)(m:qp):T (Bool×Unit×qc×qg×xc×qm×xa×qp) :=
 X (V ((b.length:Int) != 3)
  (oY h i j k l m <|
 Y (true,((),(h,(i,(j,(k,(l,m))))))))
  (oI 1 b <|
 X (uP (nth b 1 (zb .str))) λp =>
 oY h i j k l m <|
 Y ((!p),((),(h,(i,(j,(k,(l,m)))))))):T ((Bool×Unit×qc×qg×xc×qm×xa×qp))) λ(q,s,c,a,d,e,f,g) =>
 V q
  (oY c a d e f g <|
 Y (false,((),(c,(a,(d,(e,(f,g))))))))
  (oI 2 b <|
 X (p8 (nth b 2 (zb .str))) λ(n,r)=>let o:=a++([((nth b 1 (zb .str)),((n.1,(n.2.1,(n.2.2.1,()))),()))]:List Param);
 oI 1 b <|
 oA a 72 <|
 oC c <|
 .W (zu (a.length+1) 0 (a.length+1) o.length) <|
 oC d <|
 oC e <|
 oC f <|
 oC g <|
 U c <|
 .W ((a.length+1)=o.length) <|
 U d <|
 U e <|
 U f <|
 U g <|
 Y ((r==0),((),(c,(o,(d,(e,(f,g))))))))
def bY(b:zo)(t:Unit)(h:qc)(i:qg)(j:xc)(k:qm)(l:xa)(m:qp):T (Bool×Unit×qc×qg×xc×qm×xa×qp) :=
 X (V (zA ((b.length:Int)<2))
  (oY h i j k l m <|
 Y (true,((),(h,(i,(j,(k,(l,m))))))))
  (oI 1 b <|
 X (uP (nth b 1 (zb .str))) λo =>
 oY h i j k l m <|
 Y ((!o),((),(h,(i,(j,(k,(l,m)))))))):T ((Bool×Unit×qc×qg×xc×qm×xa×qp))) λ(p,s,c,d,a,e,f,g) =>
 V p
  (oY c d a e f g <|
 Y (false,((),(c,(d,(a,(e,(f,g))))))))
  (X (nn b 2) λ(q,r)=>let n:=a++([((nth b 1 (zb .str)),(q,()))]:List eK);
 oI 1 b <|
 oA a 32 <|
 oC c <|
 oC d <|
 .W (zu (a.length+1) 0 (a.length+1) n.length) <|
 oC e <|
 oC f <|
 oC g <|
 U c <|
 U d <|
 .W ((a.length+1)=n.length) <|
 U e <|
 U f <|
 U g <|
 Y (r,((),(c,(d,(n,(e,(f,g))))))))
def cN(a:zo)(aa:Unit)(A:qc)(hI:qg)(s:xc)(C:qm)(D:xa)(κ':qp):T (Bool×Unit×qc×qg×xc×qm×xa×qp) :=
 let hx:=((),(A,(hI,(s,(C,(D,κ')))))); let b:=(a.length:Int);  X (V (zA (b<2))
  (oY A hI s C D κ' <|
 Y (true,hx))
  (oI 1 a <|
 X (uP (nth a 1 (zb .str))) λκ =>
 V (!κ)
  (oY A hI s C D κ' <|
 Y (true,hx))
  (oY A hI s C D κ' <|
 Y (((s.length:Int)==0),hx))):T ((Bool×Unit×qc×qg×xc×qm×xa×qp))) λ(P,zk,g,h,c,i,j,k) =>
 V P
  (oY g h c i j k <|
 Y (false,((),(g,(h,(c,(i,(j,k))))))))
  (oI 1 a <|
 .W (jy 2 b a.length) <|
 X (.W (((zA (0<(zN (jG (e:=.str) 2 b a).length:Int)))=true)->(xe 0 (jG (e:=.str) 2 b a).length)) <|
 V ((zA (0<(zN (jG (e:=.str) 2 b a).length:Int)))&&(wK (nth (jG (e:=.str) 2 b a) 0 (zb .str)) [109,117,115,116]))
  (.W (jy 1 (zN (jG (e:=.str) 2 b a).length:Int) (jG (e:=.str) 2 b a).length) <|
 oY g h c i j k <|
 Y ((jG (e:=.str) 1 (zN (jG (e:=.str) 2 b a).length:Int) (jG (e:=.str) 2 b a)),((),(g,(h,(c,(i,(j,(k,((nth a 1 (zb .str)),((qo ((c.length:Int)-1)),(true,((0:Int),())))))))))))))
  (oY g h c i j k <|
 Y ((jG (e:=.str) 2 b a),((),(g,(h,(c,(i,(j,(k,((nth a 1 (zb .str)),((qo ((c.length:Int)-1)),(false,((0:Int),()))))))))))))):T ((zo×Unit×qc×qg×xc×qm×xa×qp×Field))) λ(d,zC,m,n,o,p,q,r,hl)=>let l:=nth d 1 (zb .str); let G:=((),(m,(n,(o,(p,(q,(r,hl)))))));
 X (X (X (np d 2 0 [115,99,97,108,101]) λS =>
 V S
  (oI 1 d <|
 V ((l.length:Int)==1)
  (oI 1 d <|
 V (!(strLt l [48]))
  (oI 1 d <|
 oY m n o p q r <|
 Y (((strLt l [57])||(wK l [57])),G))
  (oY m n o p q r <|
 Y (false,G)))
  (oY m n o p q r <|
 Y (false,G)))
  (oY m n o p q r <|
 Y (false,G)):T ((Bool×Unit×qc×qg×xc×qm×xa×qp×Field))) λ(oE,zB,t,u,v,w,x,y,z) =>
 V oE
  (oI 1 d <|
 oI 0 l <|
 oY t u v w x y <|
 Y ([],((),(t,(u,(v,(w,(x,(y,(z.1,(z.2.1,(z.2.2.1,((qo (wu8 ((uq l 0)-48))),())))))))))))))
  (oY t u v w x y <|
 Y (d,((),(t,(u,(v,(w,(x,(y,z))))))))):T ((zo×Unit×qc×qg×xc×qm×xa×qp×Field))) λ(zD,z6,H,hb,hd,f,K,L,h2) =>
 oA f 40 <|
 oC H <|
 oC hb <|
 oC hd <|
 .W (zu (f.length+1) 0 (f.length+1) (f++[h2]).length) <|
 oC K <|
 oC L <|
 U H <|
 U hb <|
 U hd <|
 .W ((f.length+1)=(f++[h2]).length) <|
 U K <|
 U L <|
 Y (((zD.length:Int)==0),((),(H,(hb,(hd,((f++[h2]),(K,L))))))))
def oR(ag:zx)(an:Unit)(b:qc)(c:qg)(d:xc)(e:qm)(f:xa)(g:qp):T (Int×Unit×qc×qg×xc×qm×xa×qp) :=
 let j:=((),(b,(c,(d,(e,(f,g))))));  X (strings_Cut ag [58]) λ(z6,K,i) =>
 X (sY z6) λa=>let hd:=zA (0<(a.length:Int)); let h:=nth a 0 (zb .str);
 .W (((((a.length:Int)==0)=true)->(((!i)=false)->((hd=true)->((xe 0 a.length)/\(xe 0 h.length)))))/\((((a.length:Int)==0)=false)->((hd=true)->((xe 0 a.length)/\(xe 0 h.length))))) <|
 V (bif ((a.length:Int)==0)then((!i)||(hd&&((uq h 0)==35)))else(hd&&((uq h 0)==35)))
  (oY b c d e f g <|
 Y (0,j))
  (V ((a.length:Int)==0)
  (V (!false)
  (oY b c d e f g <|
 Y (2,j))
  (oY b c d e f g <|
 Y (0,j)))
  (.W ((i=true)->(xe 0 a.length)) <|
 V (i&&(wK h [99,104,101,99,107]))
  (oY b c d e f g <|
 X (ba a K () b c d e f g) λ(aa,ah,L,h2,hx,κ,P,hl) =>
 oY L h2 hx κ P hl <|
 Y (aa,((),(L,(h2,(hx,(κ,(P,hl))))))))
  (.W ((i=true)->(xe 0 a.length)) <|
 V (i&&(wK h [114,117,108,101]))
  (oY b c d e f g <|
 X (bZ a K () b c d e f g) λ(ab,ai,S,oE,zD,zk,zC,zB) =>
 oY S oE zD zk zC zB <|
 Y (ab,((),(S,(oE,(zD,(zk,(zC,zB))))))))
  (V i
  (V (!false)
  (oY b c d e f g <|
 Y (2,j))
  (oY b c d e f g <|
 Y (0,j)))
  (oI 0 a <|
 V (wK h [115,119,105,116,99,104])
  (oY b c d e f g <|
 X (bX a () b c d e f g) λ(ac,aj,k,l,m,n,o,p) =>
 V (!ac)
  (oY k l m n o p <|
 Y (2,((),(k,(l,(m,(n,(o,p))))))))
  (oY k l m n o p <|
 Y (0,((),(k,(l,(m,(n,(o,p)))))))))
  (oI 0 a <|
 V (wK h [112,97,114,97,109])
  (oY b c d e f g <|
 X (cM a () b c d e f g) λ(ad,ak,q,r,s,t,u,v) =>
 V (!ad)
  (oY q r s t u v <|
 Y (2,((),(q,(r,(s,(t,(u,v))))))))
  (oY q r s t u v <|
 Y (0,((),(q,(r,(s,(t,(u,v)))))))))
  (oI 0 a <|
 V (wK h [112,97,103,101])
  (oY b c d e f g <|
 X (bY a () b c d e f g) λ(ae,al,w,x,y,z,A,hI) =>
 V (!ae)
  (oY w x y z A hI <|
 Y (2,((),(w,(x,(y,(z,(A,hI))))))))
  (oY w x y z A hI <|
 Y (0,((),(w,(x,(y,(z,(A,hI)))))))))
  (oI 0 a <|
 V (wK h [102,105,101,108,100])
  (oY b c d e f g <|
 X (cN a () b c d e f g) λ(af,am,C,D,κ',G,H,hb) =>
 V (!af)
  (oY C D κ' G H hb <|
 Y (2,((),(C,(D,(κ',(G,(H,hb))))))))
  (oY C D κ' G H hb <|
 Y (0,((),(C,(D,(κ',(G,(H,hb)))))))))
  (V (!false)
  (oY b c d e f g <|
 Y (2,j))
  (oY b c d e f g <|
 Y (0,j)))))))))))
def iS(u:zo)(w:Int):(Int×Unit×Unit×qp×qp×xa×xa×qc×qc×qg×qg×xc×xc×qm×qm)->T ((Int×Unit×Unit×qp×qp×xa×xa×qc×qc×qg×qg×xc×xc×qm×qm)⊕((Unit×Unit×qp×qp×xa×xa×qc×qc×qg×qg×xc×xc×qm×qm)⊕(Int×Int×Form×Unit×qp×qp×xa×xa×qc×qc×qg×qg×xc×xc×qm×qm)))
 | (m,y,z,a,n,b,o,c,p,d,q,e,r,f,s) =>
 V (zA (m<w))
  (oI m u <|
 oY p q r s o n <|
 X (oR (nth u m (zb .str)) () p q r s o n) λ(t,x,g,h,i,j,k,l)=>let v:=((),(a,(l,(b,(k,(c,(g,(d,(h,(e,(i,(f,j))))))))))));
 V (t != 0)
  (oV g h i j k l <|
 oW a l b k c g <|
 oW d h e i f j <|
 Y (zF (zF ((qo (m+1)),(t,((([]:List Switch),(([]:List Param),(([]:List eK),(([]:List Field),(([]:List dW),(([]:List Check),())))))),v))))))
  (oV c d e f b a <|
 oV g h i j k l <|
 oW a l b k c g <|
 oW d h e i f j <|
 Y (zG ((qo (m+1)),((),v)))))
  (oV c d e f b a <|
 oV p q r s o n <|
 oW a n b o c p <|
 oW d q e r f s <|
 Y (zF (zG ((),((),(a,(n,(b,(o,(c,(p,(d,(q,(e,(r,(f,s))))))))))))))))
def rR x x1 s:=zJ (iS x x1) s
def nk(h:zx):T (Form×Int×Int) :=
 V (zA (16384<(h.length:Int)))
  (Y ((([]:List Switch),(([]:List Param),(([]:List eK),(([]:List Field),(([]:List dW),(([]:List Check),())))))),(0,3)))
  (X (strings_Split h [10]) λg =>
 .W (zu 0 0 0 0) <|
 .W (zu 0 0 0 0) <|
 .W (zu 0 0 0 0) <|
 .W (zu 0 0 0 0) <|
 .W (zu 0 0 0 0) <|
 .W (zu 0 0 0 0) <|
 .W (zu 0 0 0 0) <|
 .W (zu 0 0 0 0) <|
 .W (zu 0 0 0 0) <|
 .W (zu 0 0 0 0) <|
 .W (zu 0 0 0 0) <|
 oZ <|
 .W (0=0) <|
 .W (0=0) <|
 .W (0=0) <|
 .W (0=0) <|
 .W (0=0) <|
 .W (0=0) <|
 .W (0=0) <|
 .W (0=0) <|
 .W (0=0) <|
 .W (0=0) <|
 .W (0=0) <|
 X (rR g (g.length:Int) (0,((),((),([],([],([],([],([],([],([],([],([],([],([],[]))))))))))))))) <|
 zK (λ(n,o,p,a,q,b,r,c,s,d,t,e,u,f)=>let i:=((zH 0 (zI (0+c.length) c)),((zH 0 (zI (0+d.length) d)),((zH 0 (zI (0+e.length) e)),((zH 0 (zI (0+f.length) f)),((zH 0 (zI (0+b.length) b)),((zH 0 (zI (0+a.length) a)),()))))));
 oW c d e f b a <|
 X (Z6 i) λj =>
 V (!j)
  (Y ((([]:List Switch),(([]:List Param),(([]:List eK),(([]:List Field),(([]:List dW),(([]:List Check),())))))),(0,2)))
  (oW c d e f b a <|
 Y (i,(0,0))))
  (λ(k,l,m,v,w,x,y,z,A,hI,C,D,κ',G,H,hb) =>
 Y (m,(k,l))))
def Zz(c:Form):T Form :=
 X (sV c) λa =>
 X (nk a) λ(b,d,e) =>
 Y b
def yT(a:Int):T Rat :=
 X (iu (bif (zA (a<0))then(wh (0-(wh a)))else(wh a))) λb =>
 X (iu 1) λc =>
 Y ((zA (a<0)),(b,(c,())))
def QR(a:Form)(b:qe):T Bool :=
 Y (((b.2.2.1.length:Int)==(a.2.2.2.1.length:Int))&&(((b.2.2.2.1.length:Int)==(a.2.2.2.2.1.length:Int))&&(((b.2.2.2.2.1.length:Int)==(a.2.2.2.1.length:Int))&&((b.2.2.2.2.2.1.length:Int)==(a.2.2.2.1.length:Int)))))
def bP(a:Rat):T Bool :=
 X (tq a) λb =>
 V (!b)
  (Y true)
  (X (cu a) λc =>
 Y c)
def yP(b:zr)(d:Rat->T Bool)(e:Int):Int->T (Int⊕(Unit⊕Int))
 | a =>
 V (zA (a<e))
  (oI a b <|
 X (d (nth b a (zb zl))) λc =>
 V c
  (Y (zF (zF a)))
  (Y (zG (qo (a+1)))))
  (Y (zF (zG ())))
def sa s1 f x s:=zJ (yP s1 f x) s
def kM(a:zr)(c:Rat->T Bool):T Int :=
 X (sa a c (a.length:Int) 0) <|
 zK (λ_ =>
 Y (-1))
  (λb =>
 Y b)
def vw(b:zr)(c:Rat->T Bool):T Bool :=
 X (kM b c) λa =>
 Y (zA (0<=a))
def pZ(c:qm)(d:Int):(Int×zo)->T ((Int×zo)⊕zo)
 | (b,a) =>
 V (zA (b<d))
  (oI b c <|
 oA a 16 <|
 oM (a.length+1) (a++([(nth c b (zb qu)).1]:List zx)).length <|
 Y (zG ((qo (b+1)),(a++([(nth c b (zb qu)).1]:List zx)))))
  (oC a <|
 U a <|
 Y (zF a))
def pY x x1 s:=zJ (pZ x x1) s
def sC(b:Form):T zo :=
 oZ <|
 X (pY b.2.2.2.1 (b.2.2.2.1.length:Int) (0,[])) λa =>
 U a <|
 Y (zH 0 (zI (0+a.length) a))
def bf(a:zr):T zr :=
 let b:=0+a.length;  .W (a=[]->∀ r,T.leads (.W (vS 0 0 0 0 0 a.length 56) <|
 .W (b=b) <|
 Y (zH 0 (zI (0+b) a)):T _) r->T.leads (Y []:T _) r) <|
 .W (vS 0 0 0 0 0 a.length 56) <|
 .W (b=b) <|
 Y (zH 0 (zI (0+b) a))
def QU(h:qg)(i:Int):(Int×(zr×Unit)×(zo×zr×Unit)×zo×zo×zo)->T ((Int×(zr×Unit)×(zo×zr×Unit)×zo×zo×zo)⊕(((zr×Unit)×(zo×zr×Unit)×zo×zo×zo)))
 | (d,g,e,b,c,a)=>let f:=a++([(nth h d (zb qf)).1]:List zx);
 V (zA (d<i))
  (oI d h <|
 oA a 16 <|
 oC b <|
 oC c <|
 .W (zu (a.length+1) 0 (a.length+1) f.length) <|
 U b <|
 U c <|
 .W ((a.length+1)=f.length) <|
 Y (zG ((qo (d+1)),((g.1,()),((e.1,(e.2.1,())),(b,(c,f)))))))
  (oC b <|
 oC c <|
 oC a <|
 U b <|
 U c <|
 U a <|
 Y (zF ((g.1,()),((e.1,(e.2.1,())),(b,(c,a))))))
def QT x x1 s:=zJ (QU x x1) s
def pX(b:Form)(f:zr):T wj :=
 X (sC b) λd =>
 X (bf f) λe =>
 .W (zu 0 0 0 0) <|
 .W (zu 0 0 0 0) <|
 oZ <|
 .W (0=0) <|
 .W (0=0) <|
 X (QT b.2.1 (b.2.1.length:Int) (0,(([],()),((d,(e,())),([],([],[])))))) λ(g,c,h,i,a) =>
 U a <|
 Y (c.1,((zH 0 (zI (0+a.length) a)),(c.2.1,())))
def dI(a:Switch)(b:zx):T Bool :=
 Y (wK a.1 b)
def XL(e:Form)(c:zp)(b:zx):T Bool :=
 X (wa e.1 (λd=>dI d b)) λa =>
 .W (((wK b [])=false)->(((zA (0<=a))=true)->(xe a c.length))) <|
 Y ((wK b [])||((zA (0<=a))&&(nth c a (zb .bool))))
def lD(b:zr)(a:Int):T Rat :=
 V ((zA (a<0))||(zA ((b.length:Int)<=a)))
  (X (yT 0) λc =>
 Y c)
  (oI a b <|
 X (vD (nth b a (zb zl))) λd =>
 Y d)
def XE(g:zx)(d:wj):T (vI×Int) :=
 X (wD d.1 g) λe =>
 V (zA (0<=e))
  (X (yT 1) λa =>
 X (yT 0) λb =>
 Y (((0:Int),(([(e,((a.1,(a.2.1,(a.2.2.1,()))),()))]:List Term),((b.1,(b.2.1,(b.2.2.1,()))),()))),0))
  (X (wD d.2.1 g) λf =>
 V (zA (f<0))
  (Y (((0:Int),(([]:List Term),((false,(([]:List Int),(([]:List Int),()))),()))),5))
  (X (lD d.2.2.1 f) λc =>
 Y (((0:Int),(([]:List Term),((c.1,(c.2.1,(c.2.2.1,()))),()))),0)))
def oL(f:Rat)(g:Rat):T Rat :=
 X (vD f) λa =>
 X (vD g) λb =>
 X (ir a.2.1 b.2.1) λc =>
 X (ir a.2.2.1 b.2.2.1) λd =>
 X (rM (!(a.1==b.1)) c d) λe =>
 Y e
def iI(b:Rat):T Bool :=
 X (vD b) λa =>
 Y ((a.2.1.length:Int)==0)
def Zg(k:Rat)(f:wB)(l:Int):(Int×(Int×Bool×z7×z7×Unit)×(Int×Bool×z7×z7×Unit)×wB×wB)->T ((Int×(Int×Bool×z7×z7×Unit)×(Int×Bool×z7×z7×Unit)×wB×wB)⊕(((Int×Bool×z7×z7×Unit)×(Int×Bool×z7×z7×Unit)×wB×wB)))
 | (b,c,d,e,a)=>let i:=((c.1,(c.2.1,(c.2.2.1,(c.2.2.2.1,())))),((d.1,(d.2.1,(d.2.2.1,(d.2.2.2.1,())))),(e,a)));
 V (zA (b<l))
  (oI b f <|
 X (oL ((nth f b (zb qj)).2.1.1,((nth f b (zb qj)).2.1.2.1,((nth f b (zb qj)).2.1.2.2.1,()))) k) λg=>let h:=a++([((nth f b (zb qj)).1,((g.1,(g.2.1,(g.2.2.1,()))),()))]:List Term);
 X (iI g) λj =>
 V (!j)
  (oA a 64 <|
 oC e <|
 .W (zu (a.length+1) 0 (a.length+1) h.length) <|
 U e <|
 .W ((a.length+1)=h.length) <|
 Y (zG ((qo (b+1)),((c.1,(c.2.1,(c.2.2.1,(c.2.2.2.1,())))),((d.1,(d.2.1,(d.2.2.1,(d.2.2.2.1,())))),(e,h))))))
  (oC e <|
 oC a <|
 U e <|
 U a <|
 Y (zG ((qo (b+1)),i))))
  (oC e <|
 oC a <|
 U e <|
 U a <|
 Y (zF i))
def Zf by_1 x x1 s:=zJ (Zg by_1 x x1) s
def dC(b:vI)(e:Rat):T vI :=
 X (oL b.2.2.1 e) λc =>
 .W (zu 0 0 0 0) <|
 oZ <|
 .W (0=0) <|
 X (Zf e b.2.1 (b.2.1.length:Int) (0,((0,(false,([],([],())))),((b.1,(c.1,(c.2.1,(c.2.2.1,())))),([],[]))))) λ(f,a,g,d) =>
 U d <|
 Y (a.1,((zH 0 (zI (0+d.length) d)),((a.2.1,(a.2.2.1,(a.2.2.2.1,()))),())))
def Vb(c:z7)(e:z7)(h:Int):(Int×Int×z7)->T ((Int×Int×z7)⊕z7)
 | (g,a,b) =>
 V (zA (a<h))
  (oI a e <|
 .W (((zA (a<(c.length:Int)))=true)->(xe a c.length)) <|
 X (kS (nth e a (zb (.int .u32))) (bif (zA (a<(c.length:Int)))then(nth c a (zb (.int .u32)))else 0) g) λ(d,f) =>
 oI a b <|
 .W (uN b.length b.length (0+(zE a)) b.length) <|
 oM b.length (zL b (0+(zE a)) d).length <|
 Y (zG (f,((qo (a+1)),(zL b (0+(zE a)) d)))))
  (oC b <|
 U b <|
 Y (zF b))
def Va b2 x x1 s:=zJ (Vb b2 x x1) s
def Uf(c:z7)(d:z7):T (z7×Bool) :=
 X (sJ c d) λe =>
 V (zA (e<0))
  (Y ([],false))
  (X (vV c) λa =>
 X (vV d) λf =>
 .W (ez (a.length:Int) (a.length:Int) 4) <|
 oM (zE (a.length:Int)) (zM (zE (a.length:Int)) (0:Int)).length <|
 X (Va f a (a.length:Int) (0,(0,(zM (zE (a.length:Int)) 0)))) λb =>
 U b <|
 X (vV (zH 0 (zI (0+b.length) b))) λg =>
 Y (g,true))
def oJ(m:Rat)(n:Rat):T Rat :=
 X (vD m) λa =>
 X (vD n) λb =>
 X (ir a.2.1 b.2.2.1) λc =>
 X (ir b.2.1 a.2.2.1) λd =>
 X (ir a.2.2.1 b.2.2.1) λe =>
 V (a.1==b.1)
  (X (Uc c d) λf =>
 X (rM a.1 f e) λg =>
 Y g)
  (X (Uf c d) λ(h,i) =>
 V i
  (X (rM a.1 h e) λj =>
 Y j)
  (X (Uf d c) λ(k,o) =>
 X (rM b.1 k e) λl =>
 Y l))
def WL  : (wB×wB×(Int×Bool×z7×z7×Unit)×(Int×Bool×z7×z7×Unit)×wB×wB)->T ((wB×wB×(Int×Bool×z7×z7×Unit)×(Int×Bool×z7×z7×Unit)×wB×wB)⊕(((Int×Bool×z7×z7×Unit)×(Int×Bool×z7×z7×Unit)×wB×wB)))
 | (b,a,n,o,c,d)=>let g:=(b.length:Int); let m:=nth a 0 (zb qj); let l:=nth b 0 (zb qj); let p:=(n.1,(n.2.1,(n.2.2.1,(n.2.2.2.1,())))); let q:=(o.1,(o.2.1,(o.2.2.1,(o.2.2.2.1,()))));
 V (zA (0<(qo (g+(a.length:Int)))))
  (X (.W ((((a.length:Int)==0)=false)->(((zA (0<g))=true)->((xe 0 b.length)/\(xe 0 a.length)))) <|
 V (((a.length:Int)==0)||((zA (0<g))&&(zA (l.1<m.1))))
  (oI 0 b <|
 oI 0 b <|
 X (vD l.2.1) λr =>
 .W (jy 1 g b.length) <|
 oC c <|
 oC d <|
 U c <|
 U d <|
 Y ((jG (e:=qj) 1 g b),(a,(p,(q,(c,(d,(l.1,((r.1,(r.2.1,(r.2.2.1,()))),())))))))))
  (.W (((g==0)=false)->((xe 0 a.length)/\(xe 0 b.length))) <|
 V ((g==0)||(zA (m.1<l.1)))
  (oI 0 a <|
 oI 0 a <|
 X (vD m.2.1) λs =>
 .W (jy 1 (a.length:Int) a.length) <|
 oC c <|
 oC d <|
 U c <|
 U d <|
 Y (b,((jG (e:=qj) 1 (a.length:Int) a),(p,(q,(c,(d,(m.1,((s.1,(s.2.1,(s.2.2.1,()))),())))))))))
  (oI 0 b <|
 oI 0 b <|
 oI 0 a <|
 X (oJ l.2.1 m.2.1) λt =>
 .W (jy 1 g b.length) <|
 .W (jy 1 (a.length:Int) a.length) <|
 oC c <|
 oC d <|
 U c <|
 U d <|
 Y ((jG (e:=qj) 1 g b),((jG (e:=qj) 1 (a.length:Int) a),(p,(q,(c,(d,(l.1,((t.1,(t.2.1,(t.2.2.1,()))),())))))))))):T ((wB×wB×(Int×Bool×z7×z7×Unit)×(Int×Bool×z7×z7×Unit)×wB×wB×Term))) λ(u,v,h,i,j,f,k) =>
 X (iI (k.2.1.1,(k.2.1.2.1,(k.2.1.2.2.1,())))) λw =>
 V (!w)
  (oA f 64 <|
 oC j <|
 .W (zu (f.length+1) 0 (f.length+1) (f++[k]).length) <|
 U j <|
 .W ((f.length+1)=(f++[k]).length) <|
 Y (zG (u,(v,((h.1,(h.2.1,(h.2.2.1,(h.2.2.2.1,())))),((i.1,(i.2.1,(i.2.2.1,(i.2.2.2.1,())))),(j,(f++[k]))))))))
  (oC j <|
 oC f <|
 U j <|
 U f <|
 Y (zG (u,(v,((h.1,(h.2.1,(h.2.2.1,(h.2.2.2.1,())))),((i.1,(i.2.1,(i.2.2.1,(i.2.2.2.1,())))),(j,f))))))))
  (oC c <|
 oC d <|
 U c <|
 U d <|
 Y (zF (p,(q,(c,d)))))
def WK(s:(wB×wB×(Int×Bool×z7×z7×Unit)×(Int×Bool×z7×z7×Unit)×wB×wB)):T (((Int×Bool×z7×z7×Unit)×(Int×Bool×z7×z7×Unit)×wB×wB)):=zJ (WL ) s
def XC(d:vI)(e:vI):T vI :=
 X (oJ d.2.2.1 e.2.2.1) λb =>
 .W (zu 0 0 0 0) <|
 oZ <|
 .W (0=0) <|
 X (WK  (d.2.1,(e.2.1,((0,(false,([],([],())))),((d.1,(b.1,(b.2.1,(b.2.2.1,())))),([],[])))))) λ(f,a,g,c) =>
 U c <|
 Y (a.1,((zH 0 (zI (0+c.length) c)),((a.2.1,(a.2.2.1,(a.2.2.2.1,()))),())))
def sQ(d:Rat)(e:Rat):T (Rat×Bool) :=
 X (vD e) λa =>
 V ((a.2.1.length:Int)==0)
  (X (yT 0) λb =>
 Y (b,false))
  (X (oL d (a.1,(a.2.2.1,(a.2.1,())))) λc =>
 Y (c,true))
def Zh(c:Int)(a:vI)(b:vI):T (vI×Int) :=
 V (c==3)
  (X (XC a b) λd =>
 Y (d,0))
  (V (c==4)
  (X (yT (-1)) λe =>
 X (dC b e) λf =>
 X (XC a f) λg =>
 Y (g,0))
  (V (c==5)
  (V ((zA (0<(a.2.1.length:Int)))&&(zA (0<(b.2.1.length:Int))))
  (Y (((0:Int),(([]:List Term),((false,(([]:List Int),(([]:List Int),()))),()))),6))
  (V (zA (0<(a.2.1.length:Int)))
  (X (dC a b.2.2.1) λh =>
 Y (h,0))
  (X (dC b a.2.2.1) λi =>
 Y (i,0))))
  (X (yT 1) λj =>
 X (sQ j b.2.2.1) λ(k,l) =>
 V (zA (0<(b.2.1.length:Int)))
  (Y (((0:Int),(([]:List Term),((false,(([]:List Int),(([]:List Int),()))),()))),6))
  (V (!l)
  (Y (((0:Int),(([]:List Term),((false,(([]:List Int),(([]:List Int),()))),()))),7))
  (X (dC a k) λm =>
 Y (m,0))))))
def dD(g:AM.Expr->wj->T (vI×Int))(a:AM.Expr)(c:wj):T (vI×Int) :=
 V ((Expr.kind a)==1)
  (X (vD (Expr.num a)) λb =>
 Y (((0:Int),(([]:List Term),((b.1,(b.2.1,(b.2.2.1,()))),()))),0))
  (V ((Expr.kind a)==2)
  (X (XE (Expr.name a) c) λ(h,i) =>
 Y (h,i))
  (oI 0 (Expr.kids a) <|
 X (g (nth (Expr.kids a) 0 (zb .expr)) c) λ(d,e) =>
 V (e != 0)
  (Y (((0:Int),(([]:List Term),((false,(([]:List Int),(([]:List Int),()))),()))),e))
  (V ((Expr.kind a)==7)
  (X (yT (-1)) λj =>
 X (dC d j) λk =>
 Y (k,0))
  (oI 1 (Expr.kids a) <|
 X (g (nth (Expr.kids a) 1 (zb .expr)) c) λ(l,f) =>
 V (f != 0)
  (Y (((0:Int),(([]:List Term),((false,(([]:List Int),(([]:List Int),()))),()))),f))
  (X (Zh (Expr.kind a) d l) λ(m,n) =>
 Y (m,n))))))
def Kj(e:AM.Expr)(v:wj):T (vI×Int):=T.fix (λF x=>dD (λy0 y1=>F (y0,y1)) x.1 x.2) (e,v)
def KQ(a:AM.Expr)(e:wj):T (vI×Int) :=
 X (fZ a) λb =>
 V (!b)
  (Y (((0:Int),(([]:List Term),((false,(([]:List Int),(([]:List Int),()))),()))),5))
  (X (Kj a e) λ(c,d) =>
 Y (c,d))
def Zx(b:dW)(g:wj):T (vI×Int) :=
 X (KQ b.2.2.2.1 g) λ(c,d) =>
 V (d != 0)
  (Y (c,d))
  (X (KQ b.2.2.2.2.1 g) λ(e,f) =>
 V (f != 0)
  (Y (e,f))
  (X (yT (-1)) λh =>
 X (dC e h) λi =>
 X (XC c i) λa =>
 Y ((b.2.1,(a.2.1,((a.2.2.1.1,(a.2.2.1.2.1,(a.2.2.1.2.2.1,()))),()))),0)))
def gQ(b:Term):T Bool :=
 X (cu b.2.1) λa =>
 Y a
def yg(b:wB)(d:Term->T Bool)(e:Int):Int->T (Int⊕(Unit⊕Int))
 | a =>
 V (zA (a<e))
  (oI a b <|
 X (d (nth b a (zb qj))) λc =>
 V c
  (Y (zF (zF a)))
  (Y (zG (qo (a+1)))))
  (Y (zF (zG ())))
def oU s1 f x s:=zJ (yg s1 f x) s
def kg(a:wB)(c:Term->T Bool):T Int :=
 X (oU a c (a.length:Int) 0) <|
 zK (λ_ =>
 Y (-1))
  (λb =>
 Y b)
def vW(b:wB)(c:Term->T Bool):T Bool :=
 X (kg b c) λa =>
 Y (zA (0<=a))
def Zw(a:vI):T Bool :=
 X (cu a.2.2.1) λb =>
 V b
  (Y true)
  (X (vW a.2.1 (λc=>gQ c)) λd =>
 Y d)
def fU(i:zp)(j:Form)(e:xa)(k:Int):(Int×Unit×Unit×wj×zy×z7)->T ((Int×Unit×Unit×wj×zy×z7)⊕((Unit×Unit×wj×zy×z7)⊕(zx×Int×Unit×Unit×wj×zy×z7)))
 | (c,l,m,d,a,b) =>
 V (zA (c<k))
  (oI c e <|
 X (XL j i (nth e c (zb xl)).2.2.1) λh =>
 V (!h)
  (oC a <|
 oC b <|
 U a <|
 U b <|
 Y (zG ((qo (c+1)),((),((),(d,(a,b)))))))
  (X (Zx (nth e c (zb xl)) d) λ(f,g) =>
 V (g != 0)
  (oC a <|
 oC b <|
 U a <|
 U b <|
 Y (zF (zF ((nth e c (zb xl)).1,(g,((),((),(d,(a,b)))))))))
  (oA a 88 <|
 oA b 8 <|
 .W (zu (a.length+1) 0 (a.length+1) (a++[f]).length) <|
 .W (zu (b.length+1) 0 (b.length+1) (b++[c]).length) <|
 .W ((a.length+1)=(a++[f]).length) <|
 .W ((b.length+1)=(b++[c]).length) <|
 Y (zG ((qo (c+1)),((),((),(d,((a++[f]),(b++[c]))))))))))
  (oC a <|
 oC b <|
 U a <|
 U b <|
 Y (zF (zG ((),((),(d,(a,b)))))))
def pV on1 f1 x1 x2 s:=zJ (fU on1 f1 x1 x2) s
def fV(f:Form)(h:Int):(Int×Unit×Unit×wj×zy×z7)->T ((Int×Unit×Unit×wj×zy×z7)⊕((Unit×Unit×wj×zy×z7)⊕(zx×Int×Unit×Unit×wj×zy×z7)))
 | (c,i,j,e,a,b)=>let d:=0+(zE c);
 V (zA (c<h))
  (oI c a <|
 .W (uN a.length a.length d a.length) <|
 X (Zw (wi a d (zb zq))) λg =>
 V g
  (oI c b <|
 .W (uN b.length b.length d b.length) <|
 oI (wi b d (zb (.int .i64))) f.2.2.2.2.1 <|
 oC a <|
 oC b <|
 U a <|
 U b <|
 Y (zF (zF ((nth f.2.2.2.2.1 (wi b d (zb (.int .i64))) (zb xl)).1,(8,((),((),(e,(a,b)))))))))
  (oC a <|
 oC a <|
 oC b <|
 U a <|
 U b <|
 Y (zG ((qo (c+1)),((),((),(e,(a,b))))))))
  (oC a <|
 oC b <|
 U a <|
 U b <|
 Y (zF (zG ((),((),(e,(a,b)))))))
def pW f2 x6 s:=zJ (fV f2 x6) s
def mQ(a:Form)(f:zr)(h:zp):T (Unit×zx×Int×zy×z7) :=
 X (fD a) λ(g,i) =>
 V (g != 0)
  (.W (zu 0 0 0 0) <|
 oZ <|
 .W (0=0) <|
 Y ((),(i,(g,([],[])))))
  (X (V ((f.length:Int) != (a.2.1.length:Int))
  (Y (true,()))
  (V ((h.length:Int) != (a.1.length:Int))
  (Y (true,()))
  (X (vw f (λj=>bP j)) λk =>
 Y (k,()))):T ((Bool×Unit))) λ(l,s) =>
 V l
  (.W (zu 0 0 0 0) <|
 oZ <|
 .W (0=0) <|
 Y ((),([],(1,([],[])))))
  (X (pX a f) λm =>
 .W (zu 0 0 0 0) <|
 oZ <|
 .W (0=0) <|
 X (pV h a a.2.2.2.2.1 (a.2.2.2.2.1.length:Int) (0,((),((),(m,([],[])))))) <|
 zK (λ(t,u,n,b,c) =>
 oC b <|
 oC b <|
 oC c <|
 U b <|
 U c <|
 X (pW a (b.length:Int) (0,((),((),(n,(b,c)))))) <|
 zK (λ(v,w,x,d,e) =>
 oC d <|
 oC e <|
 U d <|
 U e <|
 Y ((),([],(0,(d,e)))))
  (λ(o,p,y,z,A,hI,C) =>
 .W (zu 0 0 0 0) <|
 oZ <|
 .W (0=0) <|
 Y ((),(o,(p,([],[]))))))
  (λ(q,r,D,κ',G,H,hb) =>
 .W (zu 0 0 0 0) <|
 oZ <|
 .W (0=0) <|
 Y ((),(q,(r,([],[])))))))
def Vi(c:Bool)(a:Rat):T Rat :=
 X (V c
  (Y (((zA (0<(a.2.1.length:Int))),(a.2.1,(a.2.2.1,()))),(false,(([]:List Int),(([]:List Int),())))))
  (Y ((false,(a.2.1,(a.2.2.1,()))),(false,(([]:List Int),(([]:List Int),()))))):T ((Rat×Rat))) λ(b,d) =>
 Y b
def Q1(c:Rat):T Rat :=
 X (vD c) λa =>
 X (Vi (!a.1) a) λb =>
 Y b
def C9(c:Int)(d:Rat):T vI :=
 X (yT 1) λa =>
 X (Q1 d) λb =>
 Y ((1:Int),(([(c,((a.1,(a.2.1,(a.2.2.1,()))),()))]:List Term),((b.1,(b.2.1,(b.2.2.1,()))),())))
def kJ(h:Int)(i:Rat)(f:Int)(a:(qc×qg×xc×qm×xa×qp×Unit))(b:zy)(c:z7)(d:z7):T ((qc×qg×xc×qm×xa×qp×Unit)×zy×z7×z7) :=
 let g:=d++([(qo ((a.2.2.2.2.1.length:Int)+h))]:List Int);  X (C9 h i) λe =>
 oA b 88 <|
 oA c 8 <|
 oA d 8 <|
 .W (zu (b.length+1) 0 (b.length+1) (b++[e]).length) <|
 .W (zu (c.length+1) 0 (c.length+1) (c++[f]).length) <|
 .W (zu (d.length+1) 0 (d.length+1) g.length) <|
 .W ((b.length+1)=(b++[e]).length) <|
 .W ((c.length+1)=(c++[f]).length) <|
 .W ((d.length+1)=g.length) <|
 Y ((a.1,(a.2.1,(a.2.2.1,(a.2.2.2.1,(a.2.2.2.2.1,(a.2.2.2.2.2.1,())))))),((b++[e]),((c++[f]),g)))
def pR(g:qe)(i:Int):(Int×zy×z7×Unit×(qc×qg×xc×qm×xa×qp×Unit)×z7)->T ((Int×zy×z7×Unit×(qc×qg×xc×qm×xa×qp×Unit)×z7)⊕((zy×z7×Unit×(qc×qg×xc×qm×xa×qp×Unit)×z7)))
 | (c,d,a,j,e,b)=>let h:=(e.1,(e.2.1,(e.2.2.1,(e.2.2.2.1,(e.2.2.2.2.1,(e.2.2.2.2.2.1,())))))); let f:=b++([(nth g.2.2.2.1 (wi a (0+(zE c)) (zb (.int .i64))) (zb (.int .i64)))]:List Int);
 V (zA (c<i))
  (oI c a <|
 .W (uN a.length a.length (0+(zE c)) a.length) <|
 oI (wi a (0+(zE c)) (zb (.int .i64))) g.2.2.2.1 <|
 oA b 8 <|
 oC a <|
 U d <|
 U a <|
 oC d <|
 .W (zu (b.length+1) 0 (b.length+1) f.length) <|
 oC a <|
 .W ((b.length+1)=f.length) <|
 Y (zG ((qo (c+1)),(d,(a,((),(h,f)))))))
  (U d <|
 U a <|
 oC d <|
 oC b <|
 oC a <|
 U b <|
 Y (zF (d,(a,((),(h,b))))))
def QP d1 x s:=zJ (pR d1 x) s
def pS(l:zn)(m:Int):(Int×zy×z7×Unit×(qc×qg×xc×qm×xa×qp×Unit)×z7)->T ((Int×zy×z7×Unit×(qc×qg×xc×qm×xa×qp×Unit)×z7)⊕((zy×z7×Unit×(qc×qg×xc×qm×xa×qp×Unit)×z7)))
 | (d,a,b,n,f,c)=>let g:=nth l d (zb zm); let k:=(f.1,(f.2.1,(f.2.2.1,(f.2.2.2.1,(f.2.2.2.2.1,(f.2.2.2.2.2.1,()))))));
 V (zA (d<m))
  (oI d l <|
 V (!g.1)
  (U a <|
 U b <|
 oC a <|
 oC c <|
 oC b <|
 U c <|
 Y (zG ((qo (d+1)),(a,(b,((),(k,c)))))))
  (oC a <|
 oC c <|
 oC b <|
 U a <|
 U c <|
 U b <|
 X (kJ d (g.2.2.1.1,(g.2.2.1.2.1,(g.2.2.1.2.2.1,()))) (bif g.2.1 then d else(-1)) k a c b) λ(e,h,i,j) =>
 U h <|
 U j <|
 oC h <|
 oC i <|
 oC j <|
 U i <|
 Y (zG ((qo (d+1)),(h,(j,((),((e.1,(e.2.1,(e.2.2.1,(e.2.2.2.1,(e.2.2.2.2.1,(e.2.2.2.2.2.1,())))))),i))))))))
  (U a <|
 U b <|
 oC a <|
 oC c <|
 oC b <|
 U c <|
 Y (zF (a,(b,((),(k,c))))))
def QQ x2 x3 s:=zJ (pS x2 x3) s
def cW(a:Form)(d:qe):T ((Int×(qc×qg×xc×qm×xa×qp×Unit)×zy×z7×z7)⊕(zo×Int)) :=
 X (QR a d) λo =>
 V (!o)
  (Y (zF ([],1)))
  (X (mQ a d.1 d.2.1) λ(p,n,f,g,e) =>
 V ((f != 0)&&(!(wK n [])))
  (Y (zF ([n],f)))
  (V (f != 0)
  (Y (zF ([],f)))
  (oC e <|
 U g <|
 U e <|
 oC g <|
 .W (zu 0 0 0 0) <|
 oC e <|
 .W (0=0) <|
 X (QP d (e.length:Int) (0,(g,(e,((),((a.1,(a.2.1,(a.2.2.1,(a.2.2.2.1,(a.2.2.2.2.1,(a.2.2.2.2.2.1,())))))),[])))))) λ(h,i,q,b,j) =>
 U h <|
 U i <|
 oC h <|
 oC j <|
 oC i <|
 U j <|
 X (QQ d.2.2.2.2.1 (d.2.2.2.2.1.length:Int) (0,(h,(i,((),((b.1,(b.2.1,(b.2.2.1,(b.2.2.2.1,(b.2.2.2.2.1,(b.2.2.2.2.2.1,())))))),j)))))) λ(k,l,r,c,m) =>
 oC k <|
 oC m <|
 oC l <|
 U k <|
 U m <|
 U l <|
 Y (zG (0,((c.1,(c.2.1,(c.2.2.1,(c.2.2.2.1,(c.2.2.2.2.1,(c.2.2.2.2.2.1,())))))),(k,(m,l))))))))
def oX(h:Int)(c:wB)(i:Int):(Int×Int)->T ((Int×Int)⊕(Unit⊕Bool))
 | (g,b)=>let a:=nth c b (zb qj);
 V (zA (b<i))
  (oI b c <|
 X (V (zA (a.1<g))
  (Y (true,a))
  (V (zA (h<=a.1))
  (Y (true,a))
  (X (tq (a.2.1.1,(a.2.1.2.1,(a.2.1.2.2.1,())))) λd =>
 V (!d)
  (Y (true,a))
  (Y (((a.2.1.2.1.length:Int)==0),a)))):T ((Bool×Term))) λ(e,f) =>
 V e
  (Y (zF (zF false)))
  (Y (zG ((qo (f.1+1)),(qo (b+1))))))
  (Y (zF (zG ())))
def tD n1 x1 x2 s:=zJ (oX n1 x1 x2) s
def cT(a:vI)(e:Int):T Bool :=
 X (V (zA (a.1<(0:Int)))
  (Y true)
  (V (zA ((4:Int)<a.1))
  (Y true)
  (X (tq a.2.2.1) λb =>
 Y (!b))):T Bool) λc =>
 V c
  (Y false)
  (X (tD e a.2.1 (a.2.1.length:Int) (0,0)) <|
 zK (λ_ =>
 Y true)
  (λd =>
 Y d))
def yQ(b:vI)(c:Int):T Bool :=
 X (cT b c) λa =>
 Y (!a)
def dy(b:zy)(d:vI->T Bool)(e:Int):Int->T (Int⊕(Unit⊕Int))
 | a =>
 V (zA (a<e))
  (oI a b <|
 X (d (nth b a (zb zq))) λc =>
 V c
  (Y (zF (zF a)))
  (Y (zG (qo (a+1)))))
  (Y (zF (zG ())))
def s9 s1 f x s:=zJ (dy s1 f x) s
def bA(a:zy)(c:vI->T Bool):T Int :=
 X (s9 a c (a.length:Int) 0) <|
 zK (λ_ =>
 Y (-1))
  (λb =>
 Y b)
def yO(b:zy)(c:vI->T Bool):T Bool :=
 X (bA b c) λa =>
 Y (zA (0<=a))
def cz  : ((Nat×Nat)×Int×z7)->T (((Nat×Nat)×Int×z7)⊕((Int×z7)))
 | (b,c,a)=>let d:=b.1+(zE c); let e:=wi a d (zb (.int .i64)); let f:=zL a d (wi a (b.1+(zE e)) (zb (.int .i64)));
 .W (xe c b.2) <|
 .W (uN a.length a.length d a.length) <|
 V (e != c)
  (.W (xe c b.2) <|
 .W (uN a.length a.length d a.length) <|
 .W (xe e b.2) <|
 .W (uN a.length a.length (b.1+(zE e)) a.length) <|
 .W (xe c b.2) <|
 .W (uN a.length a.length d a.length) <|
 .W (xe c b.2) <|
 .W (uN a.length a.length d f.length) <|
 U a <|
 .W (a.length=f.length) <|
 Y (zG (b,((wi f d (zb (.int .i64))),f))))
  (U a <|
 Y (zF (c,a)))
def lh(s:((Nat×Nat)×Int×z7)):T ((Int×z7)):=zJ (cz ) s
def yH(d:(Nat×Nat))(e:Int)(a:z7):T (Int×z7) :=
 U a <|
 U a <|
 X (lh  (d,(e,a))) λ(c,b) =>
 U b <|
 Y (c,b)
def b8(c:(Nat×Nat))(g:Int)(h:Int)(e:z7):T (Bool×z7) :=
 U e <|
 U e <|
 X (yH c g e) λ(a,f) =>
 .W (e.length=f.length) <|
 U f <|
 X (yH c h f) λ(b,d) =>
 .W (xe (l8 a b) c.2) <|
 .W (uN e.length d.length (c.1+(zE (l8 a b))) d.length) <|
 .W (d.length=(zL d (c.1+(zE (l8 a b))) (V1 a b)).length) <|
 Y ((a != b),(zL d (c.1+(zE (l8 a b))) (V1 a b)))
def nO(d:zy)(e:Int)(c:Int):(Int×z7)->T ((Int×z7)⊕z7)
 | (b,a) =>
 V (zA (b<c))
  (oI b a <|
 .W (uN a.length a.length (0+(zE b)) a.length) <|
 oM a.length (zL a (0+(zE b)) b).length <|
 Y (zG ((qo (b+1)),(zL a (0+(zE b)) b))))
  (oC a <|
 U a <|
 Y (zF a))
def nM l1 n1 x s:=zJ (nO l1 n1 x) s
def eD(k:Int)(j:Int)(l:zy)(m:Int)(n:Int):(Int×Int×z7×vI)->T ((Int×Int×z7×vI)⊕((Int×z7×vI)))
 | (f,e,a,b) =>
 V (zA (e<(b.2.1.length:Int)))
  (X (oI 0 b.2.1 <|
 oI e b.2.1 <|
 U a <|
 U a <|
 X (b8 (0,a.length) (nth b.2.1 0 (zb qj)).1 (nth b.2.1 e (zb qj)).1 a) λ(h,c) =>
 V (!h)
  (.W (zu a.length 0 a.length c.length) <|
 U c <|
 Y ((zA (f<0)),(c,b)))
  (.W (zu a.length 0 a.length c.length) <|
 U c <|
 Y (false,(c,b))):T ((Bool×z7×vI))) λ(i,d,g) =>
 V i
  (oC d <|
 U d <|
 Y (zG (j,((qo (e+1)),(d,g)))))
  (oC d <|
 U d <|
 Y (zG (f,((qo (e+1)),(d,g))))))
  (oC a <|
 U a <|
 Y (zF (f,(a,b))))
def nN n3 i x5 x6 x7 s:=zJ (eD n3 i x5 x6 x7) s
def nP(f:Int)(c:zy)(g:Int):(Int×Int×z7)->T ((Int×Int×z7)⊕((Int×z7)))
 | (e,b,a) =>
 V (zA (b<g))
  (oI b c <|
 X (cT (nth c b (zb zq)) f) λh =>
 V (!h)
  (oC a <|
 U a <|
 Y (zG (e,((qo (b+1)),a))))
  (oC a <|
 U a <|
 X (nN f b c g b (e,(1,(a,(nth c b (zb zq)))))) λ(i,d,j) =>
 oC d <|
 U d <|
 Y (zG (i,((qo (b+1)),d)))))
  (oC a <|
 U a <|
 Y (zF (e,a)))
def Qo n2 x2 x3 s:=zJ (nP n2 x2 x3) s
def ZH(d:zy)(f:Int):T (z7×Int) :=
 let a:=V1 (l8 f 0) 64;  .W (ez a a 8) <|
 oM (zE a) (zM (zE a) (0:Int)).length <|
 X (nM d a (zN (zE a):Int) (0,(zM (zE a) 0))) λb =>
 oC b <|
 U b <|
 X (Qo a d (d.length:Int) ((-1),(0,b))) λ(e,c) =>
 U c <|
 Y ((zH 0 (zI (0+c.length) c)),e)
def mV(b:zy)(c:Int):T Int :=
 X (ZH b c) λ(d,a) =>
 Y a
def uQ(a:z7):T z7 :=
 .W (a=[]->∀ r,T.leads (.W (vS 0 0 0 0 0 a.length 8) <|
 .W (zu (0+a.length) 0 (0+a.length) a.length) <|
 .W ((0+a.length)=a.length) <|
 Y a:T _) r->T.leads (.W (zu 0 0 0 0) <|
 .W (0=0) <|
 Y []:T _) r) <|
 .W (vS 0 0 0 0 0 a.length 8) <|
 oM (0+a.length) a.length <|
 Y a
def nS(a:Int)(b:Int):T (Int×Int) :=
 let c:=wh ((wh ((jj .u64 a 32)*(GO .u64 b 4294967295)))+(jj .u64 (wh ((GO .u64 a 4294967295)*(GO .u64 b 4294967295))) 32));  .W (0<=(32:Int)) <|
 .W (0<=(32:Int)) <|
 .W (0<=(32:Int)) <|
 .W (0<=(32:Int)) <|
 .W (0<=(32:Int)) <|
 Y ((wh ((wh ((wh ((jj .u64 a 32)*(jj .u64 b 32)))+(jj .u64 c 32)))+(jj .u64 (wh ((GO .u64 c 4294967295)+(wh ((GO .u64 a 4294967295)*(jj .u64 b 32))))) 32))),(wh (a*b)))
def mG(c:Int)(d:Int):T (Int×Int) :=
 X (nS c d) λ(a,b) =>
 Y (a,b)
def gn  : (Int×z7)->T ((Int×z7)⊕z7)
 | (b,a)=>let c:=(zE (a.length:Int))-(zE b); let d:=zH (0+(zE 0)) (zI ((0+(zE 0))+((zE b)-(zE 0))) a);
 V (zA (b<(a.length:Int)))
  (.W (jy b (a.length:Int) a.length) <|
 .W (jy 0 b a.length) <|
 U a <|
 .W (QL a.length a.length (0+(zE b)) c a.length) <|
 oM a.length (yn (0+(zE b)) c a d).length <|
 Y (zG ((qo (b+(zN (CE c d.length):Int))),(yn (0+(zE b)) c a d))))
  (oC a <|
 U a <|
 Y (zF a))
def dV(s:(Int×z7)):T z7:=zJ (gn ) s
def yk(c:z7)(e:Int):T z7 :=
 V (zA (e<0))
  (.fail)
  (X (mG (wh (c.length:Int)) (wh e)) λ(f,b)=>let a:=zE (qo b);
 V ((zA (0<f))||(zA (9223372036854775807<b)))
  (.fail)
  (.W (ez (qo b) (qo b) 8) <|
 .W (QL a a 0 a (zM a (0:Int)).length) <|
 oM a (yn 0 a (zM a 0) c).length <|
 X (dV  ((zN (CE a c.length):Int),(yn 0 a (zM a 0) c))) λd =>
 oC d <|
 U d <|
 Y d))
def bN(a:Term)(b:Int):T Bool :=
 Y (a.1==b)
def XH(c:vI)(d:Int):T Bool :=
 X (vW c.2.1 (λa=>bN a d)) λb =>
 Y b
def oy(b:zy)(c:Int):T Bool :=
 X (mV b c) λa =>
 Y (zA (a<0))
def fH(r:zy)(k:z7)(o:Int)(h:zy)(p:Int):(Int×z7×z7×(zy×Unit))->T ((Int×z7×z7×(zy×Unit))⊕((z7×z7×(zy×Unit))⊕(Bool×z7×z7×(zy×Unit))))
 | (d,b,a,g)=>let i:=nth k d (zb (.int .i64)); let f:=0+(zE i);
 V (zA (d<p))
  (oI d h <|
 X (cT (nth h d (zb zq)) o) λl =>
 V (!l)
  (U b <|
 U a <|
 oC b <|
 oC a <|
 Y (zF (zF (false,(b,(a,(g.1,())))))))
  (oI d k <|
 V (i==(-1))
  (U b <|
 U a <|
 oC b <|
 oC a <|
 Y (zG ((qo (d+1)),(b,(a,(g.1,()))))))
  (X (X (XH (nth h d (zb zq)) i) λm =>
 V (!m)
  (U b <|
 U a <|
 oC b <|
 oC a <|
 Y (true,(b,(a,((g.1,()),(nth h d (zb zq)))))))
  (oI i a <|
 .W (uN a.length a.length f a.length) <|
 U b <|
 U a <|
 oC b <|
 oC a <|
 Y (((wi a f (zb (.int .i64))) != (-1)),(b,(a,((g.1,()),(nth h d (zb zq))))))):T ((Bool×z7×z7×(zy×Unit)×vI))) λ(n,e,c,j,q) =>
 V n
  (U e <|
 U c <|
 oC e <|
 oC c <|
 Y (zF (zF (false,(e,(c,(j.1,())))))))
  (oI i c <|
 .W (uN c.length c.length f c.length) <|
 U e <|
 .W (c.length=(zL c f d).length) <|
 oC e <|
 .W (zu c.length 0 c.length (zL c f d).length) <|
 Y (zG ((qo (d+1)),(e,((zL c f d),(j.1,())))))))))
  (U b <|
 U a <|
 oC b <|
 oC a <|
 Y (zF (zG (b,(a,(g.1,()))))))
def sy l1 outs1 n1 x x1 s:=zJ (fH l1 outs1 n1 x x1) s
def bh(a:zy)(g:z7)(b:Int):T ((Bool×(zy×Unit)×z7×z7)⊕Bool) :=
 V ((zA (b<1))||((zA (64<b))||((zA (256<(a.length:Int)))||((g.length:Int) != (a.length:Int)))))
  (Y (zF false))
  (X (uQ g) λc =>
 X (yk ([(-1)]:List Int) b) λd =>
 U c <|
 U d <|
 oC c <|
 oC d <|
 X (sy a g b a (a.length:Int) (0,(c,(d,(a,()))))) <|
 zK (λ(e,f,h) =>
 X (oy a b) λi =>
 oC e <|
 oC f <|
 U e <|
 U f <|
 Y (zG (i,((h.1,()),(e,f)))))
  (λ(j,k,l,m) =>
 Y (zF j)))
def kW(a:z7):T z7 :=
 let b:=0+a.length;  .W (a=[]->∀ r,T.leads (.W (vS 0 0 0 0 0 a.length 8) <|
 .W (b=b) <|
 Y (zH 0 (zI (0+b) a)):T _) r->T.leads (Y []:T _) r) <|
 .W (vS 0 0 0 0 0 a.length 8) <|
 .W (b=b) <|
 Y (zH 0 (zI (0+b) a))
def cmp_isNaN_int(a:Int):T Bool :=
 Y (a != a)
def cmp_Compare_int(a:Int)(b:Int):T Int :=
 X (cmp_isNaN_int a) λd =>
 X (cmp_isNaN_int b) λc =>
 V d
  (V c
  (Y 0)
  (Y (-1)))
  (V c
  (Y 1)
  (V (zA (a<b))
  (Y (-1))
  (V (zA (b<a))
  (Y 1)
  (Y 0))))
def wu(b:Int)(c:Int)(a:zy):T Int :=
 oI b a <|
 oI c a <|
 X (cmp_Compare_int (nth a b (zb zq)).1 (nth a c (zb zq)).1) λd =>
 Y d
def uJ(l:Int)(n:Int)(m:Int->Int->T Int)(o:Int):((Nat×Nat)×Int×z7)->T (((Nat×Nat)×Int×z7)⊕(((Nat×Nat)×z7)))
 | (d,e,b)=>let f:=qo (e-1);
 X (V (zA (l<e))
  (.W (xe e d.2) <|
 .W (uN b.length b.length (d.1+(zE e)) b.length) <|
 .W (xe f d.2) <|
 .W (uN b.length b.length (d.1+(zE f)) b.length) <|
 X (m (wi b (d.1+(zE e)) (zb (.int .i64))) (wi b (d.1+(zE f)) (zb (.int .i64)))) λj =>
 U b <|
 U b <|
 Y (d,((zA (j<0)),b)))
  (U b <|
 U b <|
 Y (d,(false,b))):T (((Nat×Nat)×Bool×z7))) λ(c,k,a)=>let g:=c.1+(zE e); let h:=c.1+(zE f); let i:=zL a g (wi a h (zb (.int .i64)));
 V k
  (.W (xe f c.2) <|
 .W (uN a.length a.length h a.length) <|
 .W (xe e c.2) <|
 .W (uN a.length a.length g a.length) <|
 .W (xe e c.2) <|
 .W (uN a.length a.length g a.length) <|
 .W (xe f c.2) <|
 .W (uN a.length a.length h i.length) <|
 U a <|
 .W (a.length=(zL i h (wi a g (zb (.int .i64)))).length) <|
 Y (zG (c,(f,(zL i h (wi a g (zb (.int .i64))))))))
  (U a <|
 U a <|
 Y (zF (c,a)))
def uH a2 b2 cmp i1 s:=zJ (uJ a2 b2 cmp i1) s
def uI(g:Int)(d:Int)(h:Int->Int->T Int):((Nat×Nat)×Int×z7)->T (((Nat×Nat)×Int×z7)⊕z7)
 | (f,b,a) =>
 V (zA (b<d))
  (U a <|
 U a <|
 X (uH g d h b (f,(b,a))) λ(e,c) =>
 U c <|
 U c <|
 Y (zG (e,((qo (b+1)),c))))
  (U a <|
 Y (zF a))
def kY a1 b1 cmp s:=zJ (uI a1 b1 cmp) s
def va(d:(Nat×Nat))(c:Int)(e:Int)(f:Int->Int->T Int)(a:z7):T z7 :=
 U a <|
 U a <|
 X (kY c e f (d,((qo (c+1)),a))) λb =>
 U b <|
 Y b
def js(f:Int)(g:Int)(i:Int):((Nat×Nat)×Int×z7)->T (((Nat×Nat)×Int×z7)⊕z7)
 | (c,b,a)=>let d:=c.1+(zE (qo (g+b))); let e:=c.1+(zE (qo (f+b))); let h:=zL a e (wi a d (zb (.int .i64)));
 V (zA (b<i))
  (.W (xe (qo (g+b)) c.2) <|
 .W (uN a.length a.length d a.length) <|
 .W (xe (qo (f+b)) c.2) <|
 .W (uN a.length a.length e a.length) <|
 .W (xe (qo (f+b)) c.2) <|
 .W (uN a.length a.length e a.length) <|
 .W (xe (qo (g+b)) c.2) <|
 .W (uN a.length a.length d h.length) <|
 U a <|
 .W (a.length=(zL h d (wi a e (zb (.int .i64)))).length) <|
 Y (zG (c,((qo (b+1)),(zL h d (wi a e (zb (.int .i64))))))))
  (U a <|
 Y (zF a))
def gJ a1 b1 n1 s:=zJ (js a1 b1 n1) s
def wZ(c:(Nat×Nat))(d:Int)(e:Int)(f:Int)(g:Int->Int->T Int)(a:z7):T z7 :=
 U a <|
 U a <|
 X (gJ d e f (c,(0,a))) λb =>
 U b <|
 Y b
def kB(e:Int)(h:Int->Int->T Int):((Nat×Nat)×Int×Int×z7)->T (((Nat×Nat)×Int×Int×z7)⊕(((Nat×Nat)×Int×z7)))
 | (d,b,c,a) =>
 V (b != c)
  (V (zA (c<b))
  (U a <|
 U a <|
 X (wZ d (qo (e-b)) e c h a) λf =>
 .W (a.length=f.length) <|
 U f <|
 Y (zG (d,((qo (b-c)),(c,f)))))
  (U a <|
 U a <|
 X (wZ d (qo (e-b)) (qo ((qo (e+c))-b)) b h a) λg =>
 .W (a.length=g.length) <|
 U g <|
 Y (zG (d,(b,((qo (c-b)),g))))))
  (U a <|
 U a <|
 Y (zF (d,(b,a))))
def kA m1 cmp s:=zJ (kB m1 cmp) s
def jq(h:(Nat×Nat))(i:Int)(a:Int)(j:Int)(f:Int->Int->T Int)(c:z7):T z7 :=
 U c <|
 U c <|
 X (kA a f (h,((qo (a-i)),((qo (j-a)),c)))) λ(g,d,b) =>
 U b <|
 U b <|
 X (wZ g (qo (a-d)) a d f b) λe =>
 U e <|
 Y e
def ue(i:(Nat×Nat)->Int->Int->Int->zy->z7->T z7)(f:Int)(h:zy):((Nat×Nat)×Int×Int×z7)->T (((Nat×Nat)×Int×Int×z7)⊕(((Nat×Nat)×Int×z7)))
 | (b,d,e,a)=>let c:=qo (jj .u64 (wh (qo (d+e))) 1);
 V (zA (d<e))
  (.W (0<=(1:Int)) <|
 .W (xe c b.2) <|
 .W (uN a.length a.length (b.1+(zE c)) a.length) <|
 .W (xe f b.2) <|
 .W (uN a.length a.length (b.1+(zE f)) a.length) <|
 X (wu (wi a (b.1+(zE c)) (zb (.int .i64))) (wi a (b.1+(zE f)) (zb (.int .i64))) h) λg =>
 V (zA (g<0))
  (U a <|
 U a <|
 Y (zG (b,((qo (c+1)),(e,a)))))
  (U a <|
 U a <|
 Y (zG (b,(d,(c,a))))))
  (U a <|
 U a <|
 Y (zF (b,(d,a))))
def u7 self_slices_symMergeCmpFunc_int a1 cmp1 s:=zJ (ue self_slices_symMergeCmpFunc_int a1 cmp1) s
def uf(h:(Nat×Nat)->Int->Int->Int->zy->z7->T z7)(g:Int):((Nat×Nat)×Int×z7)->T (((Nat×Nat)×Int×z7)⊕z7)
 | (c,b,a)=>let d:=c.1+(zE b); let e:=c.1+(zE (qo (b+1))); let f:=zL a d (wi a e (zb (.int .i64)));
 V (zA (b<(qo (g-1))))
  (.W (xe (qo (b+1)) c.2) <|
 .W (uN a.length a.length e a.length) <|
 .W (xe b c.2) <|
 .W (uN a.length a.length d a.length) <|
 .W (xe b c.2) <|
 .W (uN a.length a.length d a.length) <|
 .W (xe (qo (b+1)) c.2) <|
 .W (uN a.length a.length e f.length) <|
 U a <|
 .W (a.length=(zL f e (wi a d (zb (.int .i64)))).length) <|
 Y (zG (c,((qo (b+1)),(zL f e (wi a d (zb (.int .i64))))))))
  (U a <|
 Y (zF a))
def ua self_slices_symMergeCmpFunc_int i2 s:=zJ (uf self_slices_symMergeCmpFunc_int i2) s
def ug(i:(Nat×Nat)->Int->Int->Int->zy->z7->T z7)(f:Int)(h:zy):((Nat×Nat)×Int×Int×z7)->T (((Nat×Nat)×Int×Int×z7)⊕(((Nat×Nat)×Int×z7)))
 | (b,d,e,a)=>let c:=qo (jj .u64 (wh (qo (d+e))) 1);
 V (zA (d<e))
  (.W (0<=(1:Int)) <|
 .W (xe f b.2) <|
 .W (uN a.length a.length (b.1+(zE f)) a.length) <|
 .W (xe c b.2) <|
 .W (uN a.length a.length (b.1+(zE c)) a.length) <|
 X (wu (wi a (b.1+(zE f)) (zb (.int .i64))) (wi a (b.1+(zE c)) (zb (.int .i64))) h) λg =>
 V (!(zA (g<0)))
  (U a <|
 U a <|
 Y (zG (b,((qo (c+1)),(e,a)))))
  (U a <|
 U a <|
 Y (zG (b,(d,(c,a))))))
  (U a <|
 U a <|
 Y (zF (b,(d,a))))
def ub self_slices_symMergeCmpFunc_int m1 cmp2 s:=zJ (ug self_slices_symMergeCmpFunc_int m1 cmp2) s
def uh(h:(Nat×Nat)->Int->Int->Int->zy->z7->T z7)(g:Int):((Nat×Nat)×Int×z7)->T (((Nat×Nat)×Int×z7)⊕z7)
 | (c,b,a)=>let d:=c.1+(zE b); let e:=c.1+(zE (qo (b-1))); let f:=zL a d (wi a e (zb (.int .i64)));
 V (zA (g<b))
  (.W (xe (qo (b-1)) c.2) <|
 .W (uN a.length a.length e a.length) <|
 .W (xe b c.2) <|
 .W (uN a.length a.length d a.length) <|
 .W (xe b c.2) <|
 .W (uN a.length a.length d a.length) <|
 .W (xe (qo (b-1)) c.2) <|
 .W (uN a.length a.length e f.length) <|
 U a <|
 .W (a.length=(zL f e (wi a d (zb (.int .i64)))).length) <|
 Y (zG (c,((qo (b-1)),(zL f e (wi a d (zb (.int .i64))))))))
  (U a <|
 Y (zF a))
def uc self_slices_symMergeCmpFunc_int i5 s:=zJ (uh self_slices_symMergeCmpFunc_int i5) s
def ui(i:(Nat×Nat)->Int->Int->Int->zy->z7->T z7)(j:Int)(k:Int)(l:Int)(h:zy)(m:Int)(n:Int)(f:Int):((Nat×Nat)×Int×Int×z7)->T (((Nat×Nat)×Int×Int×z7)⊕(((Nat×Nat)×Int×z7)))
 | (b,d,e,a)=>let c:=qo (jj .u64 (wh (qo (d+e))) 1);
 V (zA (d<e))
  (.W (0<=(1:Int)) <|
 .W (xe (qo (f-c)) b.2) <|
 .W (uN a.length a.length (b.1+(zE (qo (f-c)))) a.length) <|
 .W (xe c b.2) <|
 .W (uN a.length a.length (b.1+(zE c)) a.length) <|
 X (wu (wi a (b.1+(zE (qo (f-c)))) (zb (.int .i64))) (wi a (b.1+(zE c)) (zb (.int .i64))) h) λg =>
 V (!(zA (g<0)))
  (U a <|
 U a <|
 Y (zG (b,((qo (c+1)),(e,a)))))
  (U a <|
 U a <|
 Y (zG (b,(d,(c,a))))))
  (U a <|
 U a <|
 Y (zF (b,(d,a))))
def ud self_slices_symMergeCmpFunc_int a2 m2 b1 cmp3 mid n p s:=zJ (ui self_slices_symMergeCmpFunc_int a2 m2 b1 cmp3 mid n p) s
def vx(g:(Nat×Nat)->Int->Int->Int->zy->z7->T z7)(s:(Nat×Nat))(c:Int)(a:Int)(h:Int)(j:zy)(d:z7):T z7 :=
 let b:=qo (jj .u64 (wh (qo (c+h))) 1);  V ((qo (a-c))==1)
  (U d <|
 U d <|
 X (u7 g c j (s,(a,(h,d)))) λ(w,x,m) =>
 U m <|
 U m <|
 X (ua g x (w,(c,m))) λt =>
 U t <|
 Y t)
  (V ((qo (h-a))==1)
  (U d <|
 U d <|
 X (ub g a j (s,(c,(a,d)))) λ(y,z,n) =>
 U n <|
 U n <|
 X (uc g z (y,(a,n))) λu =>
 U u <|
 Y u)
  (.W (0<=(1:Int)) <|
 U d <|
 U d <|
 X (ud g c a h j b (qo (b+a)) (qo ((qo (b+a))-1)) (s,((bif (zA (b<a))then(qo ((qo (b+a))-h))else c),((bif (zA (b<a))then b else a),d)))) λ(o,i,e)=>let l:=qo ((qo (b+a))-i);
 X (V ((zA (i<a))&&(zA (a<l)))
  (U e <|
 U e <|
 X (jq o i a l (λz0 z1=>wu z0 z1 j) e) λp =>
 .W (e.length=p.length) <|
 U p <|
 Y (o,p))
  (U e <|
 U e <|
 Y (o,e)):T (((Nat×Nat)×z7))) λ(q,f) =>
 X (V ((zA (c<i))&&(zA (i<b)))
  (U f <|
 U f <|
 X (g q c i b j f) λr =>
 .W (f.length=r.length) <|
 U r <|
 Y (q,r))
  (U f <|
 U f <|
 Y (q,f)):T (((Nat×Nat)×z7))) λ(A,k) =>
 V ((zA (b<l))&&(zA (l<h)))
  (U k <|
 U k <|
 X (g A b l h j k) λv =>
 U v <|
 Y v)
  (U k <|
 Y k)))
def vP(ze7:(Nat×Nat))(a:Int)(m:Int)(b:Int)(cmp:zy)(data:z7):T z7:=T.fix (λF x=>vx (λy0 y1 y2 y3 y4 y5=>F (y0,y1,y2,y3,y4,y5)) x.1 x.2.1 x.2.2.1 x.2.2.2.1 x.2.2.2.2.1 x.2.2.2.2.2) (ze7,a,m,b,cmp,data)
def kF(f:Int)(g:zy)(h:Int):((Nat×Nat)×Int×Int×z7)->T (((Nat×Nat)×Int×Int×z7)⊕(((Nat×Nat)×Int×z7)))
 | (d,e,b,a) =>
 V (zA (b<=f))
  (U a <|
 U a <|
 X (va d e b (λz0 z1=>wu z0 z1 g) a) λc =>
 .W (a.length=c.length) <|
 U c <|
 Y (zG (d,(b,((qo (b+h)),c)))))
  (U a <|
 U a <|
 Y (zF (d,(e,a))))
def kC n1 cmp1 blockSize s:=zJ (kF n1 cmp1 blockSize) s
def kH(g:Int)(h:zy)(f:Int):((Nat×Nat)×Int×Int×z7)->T (((Nat×Nat)×Int×Int×z7)⊕(((Nat×Nat)×Int×z7)))
 | (d,e,b,a) =>
 V (zA (b<=g))
  (U a <|
 U a <|
 X (vP d e (qo (e+f)) b h a) λc =>
 .W (a.length=c.length) <|
 U c <|
 Y (zG (d,(b,((qo (b+(qo (2*f)))),c)))))
  (U a <|
 U a <|
 Y (zF (d,(e,a))))
def kE n3 cmp3 blockSize2 s:=zJ (kH n3 cmp3 blockSize2) s
def kG(d:Int)(h:zy):((Nat×Nat)×Int×z7)->T (((Nat×Nat)×Int×z7)⊕z7)
 | (i,b,c) =>
 V (zA (b<d))
  (U c <|
 U c <|
 X (kE d h b (i,(0,((qo (2*b)),c)))) λ(e,f,a) =>
 V (zA ((qo (f+b))<d))
  (U a <|
 U a <|
 X (vP e f (qo (f+b)) d h a) λg =>
 .W (a.length=g.length) <|
 U g <|
 Y (zG (e,((qo (b*2)),g))))
  (U a <|
 U a <|
 Y (zG (e,((qo (b*2)),a)))))
  (U c <|
 Y (zF c))
def kD n2 cmp2 s:=zJ (kG n2 cmp2) s
def jr(i:(Nat×Nat))(c:Int)(d:zy)(e:z7):T z7 :=
 U e <|
 U e <|
 X (kC c d 20 (i,(0,(20,e)))) λ(f,h,a) =>
 U a <|
 U a <|
 X (va f h c (λz0 z1=>wu z0 z1 d) a) λb =>
 .W (a.length=b.length) <|
 U b <|
 X (kD c d (f,(20,b))) λg =>
 U g <|
 Y g
def uw(c:(Nat×Nat))(d:zy)(a:z7):T z7 :=
 U a <|
 U a <|
 X (jr c (zN c.2:Int) d a) λb =>
 U b <|
 Y b
def c8(b:z7)(c:z7)(d:Int):Int->T (Int⊕(Unit⊕Bool))
 | a =>
 V (zA (a<d))
  (oI a b <|
 oI a c <|
 V ((nth b a (zb (.int .i64))) != (nth c a (zb (.int .i64))))
  (Y (zF (zF false)))
  (Y (zG (qo (a+1)))))
  (Y (zF (zG ())))
def iV s11 s21 x s:=zJ (c8 s11 s21 x) s
def kX(a:z7)(b:z7):T Bool :=
 V ((a.length:Int) != (b.length:Int))
  (Y false)
  (X (iV a b (a.length:Int) 0) <|
 zK (λ_ =>
 Y true)
  (λc =>
 Y c))
def jY(k:Int->(zy×Unit)->z7->z7->T (Int×(zy×Unit)×z7×z7))(l:Int)(h:wB)(m:Int):(Int×Int×(zy×Unit)×z7×z7)->T ((Int×Int×(zy×Unit)×z7×z7)⊕((Int×(zy×Unit)×z7×z7)))
 | (f,c,g,a,b) =>
 V (zA (c<m))
  (oI c h <|
 V ((nth h c (zb qj)).1 != l)
  (oC a <|
 oC b <|
 U a <|
 U b <|
 X (k (nth h c (zb qj)).1 (g.1,()) a b) λ(i,j,d,e) =>
 oC d <|
 oC e <|
 U d <|
 U e <|
 Y (zG ((l8 f i),((qo (c+1)),((j.1,()),(d,e))))))
  (oC a <|
 oC b <|
 U a <|
 U b <|
 Y (zG (f,((qo (c+1)),((g.1,()),(a,b)))))))
  (oC a <|
 oC b <|
 U a <|
 U b <|
 Y (zF (f,((g.1,()),(a,b)))))
def gO self_delta_choice_strong v1 x x1 s:=zJ (jY self_delta_choice_strong v1 x x1) s
def j4(j:Int->(zy×Unit)->z7->z7->T (Int×(zy×Unit)×z7×z7))(e:Int)(b:(zy×Unit))(c:z7)(a:z7):T (Int×(zy×Unit)×z7×z7) :=
 let d:=wi a (0+(zE e)) (zb (.int .i64));  oI e a <|
 .W (uN a.length a.length (0+(zE e)) a.length) <|
 V (d==(-1))
  (oC c <|
 oC a <|
 U c <|
 U a <|
 Y (4,((b.1,()),(c,a))))
  (oI d b.1 <|
 oI d b.1 <|
 oC c <|
 oC a <|
 U c <|
 U a <|
 X (gO j e (nth b.1 d (zb zq)).2.1 (zN (zO (nth b.1 d (zb zq)).2.1):Int) ((nth b.1 d (zb zq)).1,(0,((b.1,()),(c,a))))) λ(h,i,f,g) =>
 oC f <|
 oC g <|
 U f <|
 U g <|
 Y (h,((i.1,()),(f,g))))
def jH(v:Int)(c:(zy×Unit))(xs:z7)(xs1:z7):T (Int×(zy×Unit)×z7×z7):=T.fix (λF x=>j4 (λy0 y1 y2 y3=>F (y0,y1,y2,y3)) x.1 x.2.1 x.2.2.1 x.2.2.2) (v,c,xs,xs1)
def yY(f:wB)(m:Int):(Int×Int×Int×(zy×Unit)×z7×z7×z7)->T ((Int×Int×Int×(zy×Unit)×z7×z7×z7)⊕((Int×(zy×Unit)×z7×z7×z7)))
 | (j,k,a,l,g,d,e) =>
 V (zA (a<m))
  (oI a f <|
 oC d <|
 oC e <|
 U d <|
 U e <|
 X (jH (nth f a (zb qj)).1 (l.1,()) d e) λ(h,i,b,c) =>
 .W (wfI (nth f a (zb qj)).1) <|
 V ((!(List.contains g (nth f a (zb qj)).1))&&(zA (k<h)))
  (oC b <|
 oC c <|
 U b <|
 U c <|
 Y (zG ((nth f a (zb qj)).1,(h,((qo (a+1)),((i.1,()),(g,(b,c))))))))
  (oC b <|
 oC c <|
 U b <|
 U c <|
 Y (zG (j,(k,((qo (a+1)),((i.1,()),(g,(b,c)))))))))
  (oC d <|
 oC e <|
 U d <|
 U e <|
 Y (zF (j,((l.1,()),(g,(d,e))))))
def dP x x1 s:=zJ (yY x x1) s
def y7(b:Int)(a:(zy×Unit))(j:z7)(e:z7)(f:z7):T (Int×(zy×Unit)×z7×z7×z7) :=
 oI b a.1 <|
 oI b a.1 <|
 oC e <|
 oC f <|
 U e <|
 U f <|
 X (dP (nth a.1 b (zb zq)).2.1 (zN (zO (nth a.1 b (zb zq)).2.1):Int) ((-1),((nth a.1 b (zb zq)).1,(0,((a.1,()),(j,(e,f))))))) λ(g,h,i,c,d) =>
 oC c <|
 oC d <|
 U c <|
 U d <|
 Y (g,((h.1,()),(i,(c,d))))
def yD(h:Int)(e:wB)(g:Int):(Int×(zy×Unit)×z7×z7×z7)->T ((Int×(zy×Unit)×z7×z7×z7)⊕(((zy×Unit)×z7×z7×z7)))
 | (c,f,a,b,d) =>
 V (zA (c<g))
  (oI c e <|
 .W (z2b true (nth e c (zb qj)).1 d) <|
 oC a <|
 oC b <|
 U a <|
 U b <|
 Y (zG ((qo (c+1)),((f.1,()),(a,(b,(d++([(nth e c (zb qj)).1]:List Int))))))))
  (oC a <|
 oC b <|
 U a <|
 U b <|
 Y (zF ((f.1,()),(a,(b,d)))))
def yB out x x1 s:=zJ (yD out x x1) s
def yC  : (Int×(zy×Unit)×z7×z7×z7)->T ((Int×(zy×Unit)×z7×z7×z7)⊕(((zy×Unit)×z7×z7×z7)⊕((zy×Unit)×z7×z7×z7)))
 | (c,r,f,g,s) =>
 V (c != (-1))
  (oC f <|
 oC g <|
 U f <|
 U g <|
 X (y7 c (r.1,()) s f g) λ(j,l,m,a,b)=>let h:=0+(zE j); let i:=wi b h (zb (.int .i64)); let p:=zL a (0+(zE i)) (-1);
 V (j==(-1))
  (oC a <|
 oC b <|
 U a <|
 U b <|
 Y (zF (zF ((l.1,()),(a,(b,m))))))
  (oI j b <|
 .W (uN b.length b.length h b.length) <|
 X (V (i != (-1))
  (oI i a <|
 .W (uN a.length a.length (0+(zE i)) a.length) <|
 .W (zu a.length 0 a.length p.length) <|
 oC b <|
 .W (a.length=p.length) <|
 U b <|
 Y ((l.1,()),(p,(b,m))))
  (oC a <|
 oC b <|
 U a <|
 U b <|
 Y ((l.1,()),(a,(b,m)))):T (((zy×Unit)×z7×z7×z7))) λ(k,e,d,t)=>let q:=zL e (0+(zE c)) j;
 oI c e <|
 .W (uN e.length e.length (0+(zE c)) e.length) <|
 oI j d <|
 .W (uN d.length d.length h d.length) <|
 oI c k.1 <|
 .W (zu e.length 0 e.length q.length) <|
 .W (zu d.length 0 d.length (zL d h c).length) <|
 .W (e.length=q.length) <|
 .W (d.length=(zL d h c).length) <|
 X (yB i (nth k.1 c (zb zq)).2.1 (zN (zO (nth k.1 c (zb zq)).2.1):Int) (0,((k.1,()),(q,((zL d h c),t))))) λ(u,n,o,v) =>
 oC n <|
 oC o <|
 U n <|
 U o <|
 Y (zG (i,((u.1,()),(n,(o,v)))))))
  (oC f <|
 oC g <|
 U f <|
 U g <|
 Y (zF (zG ((r.1,()),(f,(g,s))))))
def cV(s:(Int×(zy×Unit)×z7×z7×z7)):T (((zy×Unit)×z7×z7×z7)⊕((zy×Unit)×z7×z7×z7)):=zJ (yC ) s
def kI(i:Int)(j:(zy×Unit))(e:z7)(f:z7):T ((zy×Unit)×z7×z7) :=
 oC e <|
 oC f <|
 U e <|
 U f <|
 X (cV  (i,((j.1,()),(e,(f,[]))))) <|
 zK (λ(g,a,b,k) =>
 oC a <|
 oC b <|
 U a <|
 U b <|
 Y ((g.1,()),(a,b)))
  (λ(h,c,d,l) =>
 oC c <|
 oC d <|
 U c <|
 U d <|
 Y ((h.1,()),(c,d)))
def nI(g:zy)(f:Int):(Int×(zy×Unit)×z7×z7×z7)->T ((Int×(zy×Unit)×z7×z7×z7)⊕(((zy×Unit)×z7×z7×z7)))
 | (d,e,b,c,a) =>
 V (zA (d<f))
  (oA a 8 <|
 .W (zu (a.length+1) 0 (a.length+1) (a++[d]).length) <|
 oC b <|
 oC c <|
 U b <|
 U c <|
 .W ((a.length+1)=(a++[d]).length) <|
 Y (zG ((qo (d+1)),((e.1,()),(b,(c,(a++[d])))))))
  (oC a <|
 oC b <|
 oC c <|
 U b <|
 U c <|
 U a <|
 Y (zF ((e.1,()),(b,(c,a)))))
def Qi l1 x s:=zJ (nI l1 x) s
def nK(k:(List Int×Bool))(j:Int):(Int×(zy×Unit)×z7×z7×z7)->T ((Int×(zy×Unit)×z7×z7×z7)⊕(((zy×Unit)×z7×z7×z7)))
 | (d,h,b,c,a)=>let e:=wi a (0+(zE d)) (zb (.int .i64));
 V (zA (d<j))
  (oI d a <|
 .W (uN a.length a.length (0+(zE d)) a.length) <|
 oI e b <|
 .W (uN b.length b.length (0+(zE e)) b.length) <|
 V ((wi b (0+(zE e)) (zb (.int .i64)))==(-1))
  (oC b <|
 oC c <|
 U b <|
 U c <|
 X (kI e (h.1,()) b c) λ(i,f,g) =>
 oC a <|
 oC a <|
 oC f <|
 oC g <|
 U f <|
 U g <|
 U a <|
 Y (zG ((qo (d+1)),((i.1,()),(f,(g,a))))))
  (oC a <|
 oC a <|
 oC b <|
 oC c <|
 U b <|
 U c <|
 U a <|
 Y (zG ((qo (d+1)),((h.1,()),(b,(c,a)))))))
  (oC a <|
 oC b <|
 oC c <|
 U b <|
 U c <|
 U a <|
 Y (zF ((h.1,()),(b,(c,a)))))
def Qk ahead1 x3 s:=zJ (nK ahead1 x3) s
def nJ  : ((List Int×Bool)×(zy×Unit)×z7×z7×z7)->T (((List Int×Bool)×(zy×Unit)×z7×z7×z7)⊕(((zy×Unit)×z7×z7×z7)))
 | (l,m,b,e,f) =>
 X (V (!l.2)
  (oC f <|
 oC b <|
 oC e <|
 U b <|
 U e <|
 U f <|
 Y (true,((m.1,()),(b,(e,f)))))
  (U b <|
 X (kX l.1 (zH 0 (zI (0+b.length) b))) λn =>
 oC f <|
 oC b <|
 oC e <|
 U b <|
 U e <|
 U f <|
 Y ((!n),((m.1,()),(b,(e,f))))):T ((Bool×(zy×Unit)×z7×z7×z7))) λ(o,k,a,d,c)=>let j:=zH 0 (zI (0+a.length) a);
 V o
  (U a <|
 .W ((j.length*8)<=140737488355328) <|
 oC c <|
 oC c <|
 oC a <|
 oC d <|
 U a <|
 U d <|
 U c <|
 X (Qk (j,true) (c.length:Int) (0,((k.1,()),(a,(d,c))))) λ(p,g,h,i) =>
 oC i <|
 oC g <|
 oC h <|
 U g <|
 U h <|
 U i <|
 Y (zG ((j,true),((p.1,()),(g,(h,i))))))
  (oC a <|
 oC d <|
 U a <|
 U d <|
 U c <|
 Y (zF ((k.1,()),(a,(d,c)))))
def Qj(s:((List Int×Bool)×(zy×Unit)×z7×z7×z7)):T (((zy×Unit)×z7×z7×z7)):=zJ (nJ ) s
def oq(b:zy)(i:z7)(p:Int):T (z7×Bool) :=
 X (bh b i p) <|
 zK (λ(j,k,c,d) =>
 V (!j)
  (X (kW i) λl =>
 Y (l,false))
  (.W (zu 0 0 0 0) <|
 oC c <|
 oC d <|
 U c <|
 U d <|
 .W (0=0) <|
 X (Qi b (b.length:Int) (0,((k.1,()),(c,(d,[]))))) λ(m,e,f,a) =>
 U a <|
 U a <|
 X (uw (0,a.length) b a) λg =>
 .W (zu a.length 0 a.length g.length) <|
 oC e <|
 oC f <|
 U e <|
 U f <|
 U g <|
 X (Qj  (([],false),((m.1,()),(e,(f,g))))) λ(q,h,r,s) =>
 U h <|
 Y ((zH 0 (zI (0+h.length) h)),true)))
  (λn =>
 V (!n)
  (X (kW i) λo =>
 Y (o,false))
  (.fail))
def Q8(a:vI):T Bool :=
 V ((a.2.1.length:Int)==0)
  (X (iI a.2.2.1) λb =>
 Y b)
  (Y false)
def tJ(c:zy)(d:z7)(e:Int):T Bool :=
 X (bh c d e) <|
 zK (λ(a,f,g,h) =>
 Y a)
  (λb =>
 Y b)
def yj(b:z7)(c:Int)(d:Int):Int->T (Int⊕(Unit⊕Int))
 | a =>
 V (zA (a<d))
  (oI a b <|
 V (c==(nth b a (zb (.int .i64))))
  (Y (zF (zF a)))
  (Y (zG (qo (a+1)))))
  (Y (zF (zG ())))
def yi s1 v1 x s:=zJ (yj s1 v1 x) s
def uG(a:z7)(c:Int):T Int :=
 X (yi a c (a.length:Int) 0) <|
 zK (λ_ =>
 Y (-1))
  (λb =>
 Y b)
def jl(b:z7)(c:Int):T Bool :=
 X (uG b c) λa =>
 Y (zA (0<=a))
def cL(b:Term)(c:z7)(d:Int)(a:z7):T (Bool×z7) :=
 oI d c <|
 V (b.1 != (nth c d (zb (.int .i64))))
  (U a <|
 X (jl (zH 0 (zI (0+a.length) a)) b.1) λe =>
 oC a <|
 U a <|
 Y (e,a))
  (oC a <|
 U a <|
 Y (false,a))
def vp(e:wB)(g:Int):((z7×Int×Unit)×Int×z7)->T (((z7×Int×Unit)×Int×z7)⊕(z7⊕(Int×z7)))
 | (d,c,b) =>
 V (zA (c<g))
  (oI c e <|
 oC b <|
 U b <|
 X (cL (nth e c (zb qj)) d.1 d.2.1 b) λ(f,a) =>
 V f
  (oC a <|
 U a <|
 Y (zF (zF (c,a))))
  (oC a <|
 U a <|
 Y (zG ((d.1,(d.2.1,())),((qo (c+1)),a)))))
  (oC b <|
 U b <|
 Y (zF (zG b)))
def vo s1 x s:=zJ (vp s1 x) s
def vL(d:wB)(e:(z7×Int×Unit))(c:z7):T (Int×z7) :=
 oC c <|
 U c <|
 X (vo d (d.length:Int) ((e.1,(e.2.1,())),(0,c))) <|
 zK (λa =>
 oC a <|
 U a <|
 Y ((-1),a))
  (λ(f,b) =>
 oC b <|
 U b <|
 Y (f,b))
def wG(e:wB)(c:(z7×Int×Unit))(b:z7):T (Bool×z7) :=
 oC b <|
 U b <|
 X (vL e (c.1,(c.2.1,())) b) λ(d,a) =>
 oC a <|
 U a <|
 Y ((zA (0<=d)),a)
def iP(b:Int)(d:zy)(f:z7)(a:z7):T (Bool×z7) :=
 oI b a <|
 .W (uN a.length a.length (0+(zE b)) a.length) <|
 V ((wi a (0+(zE b)) (zb (.int .i64))) != (-1))
  (oI b d <|
 oC a <|
 U a <|
 X (wG (nth d b (zb zq)).2.1 (f,(b,())) a) λ(e,c) =>
 oC c <|
 U c <|
 Y ((!e),c))
  (oC a <|
 U a <|
 Y (false,a))
def Q6(g:zy):((zy×z7×Unit)×Int×z7×z7)->T (((zy×z7×Unit)×Int×z7×z7)⊕((z7×z7)))
 | (d,c,e,a) =>
 V (zA (c<(g.length:Int)))
  (oC e <|
 U e <|
 X (iP c d.1 d.2.1 e) λ(f,b) =>
 V (!f)
  (oC a <|
 oC b <|
 U b <|
 U a <|
 Y (zG ((d.1,(d.2.1,())),((qo (c+1)),(b,a)))))
  (oI c b <|
 .W (uN b.length b.length (0+(zE c)) b.length) <|
 oA a 8 <|
 .W (zu (a.length+1) 0 (a.length+1) (a++[c]).length) <|
 oM b.length (zL b (0+(zE c)) (-1)).length <|
 .W ((a.length+1)=(a++[c]).length) <|
 Y (zG ((d.1,(d.2.1,())),(0,((zL b (0+(zE c)) (-1)),(a++[c])))))))
  (oC a <|
 oC e <|
 U e <|
 U a <|
 Y (zF (e,a)))
def UB l1 s:=zJ (Q6 l1) s
def Wb(c:zy)(d:z7)(f:Int):T z7 :=
 X (tJ c d f) λe =>
 V (!e)
  (Y [])
  (X (uQ d) λa =>
 .W (zu 0 0 0 0) <|
 oC a <|
 U a <|
 .W (0=0) <|
 X (UB c ((c,(d,())),(0,(a,[])))) λ(g,b) =>
 U b <|
 Y (zH 0 (zI (0+b.length) b)))
def iR(j:Int)(g:wB)(k:Int):(Int×zr×Rat×Rat×Rat)->T ((Int×zr×Rat×Rat×Rat)⊕((zr×Rat×Rat×Rat)))
 | (c,a,d,e,f)=>let b:=nth g c (zb qj);
 V (zA (c<k))
  (oI c g <|
 V (b.1==j)
  (oC a <|
 U a <|
 Y (zG ((qo (c+1)),(a,(d,(e,(b.2.1.1,(b.2.1.2.1,(b.2.1.2.2.1,())))))))))
  (.W (xe b.1 a.length) <|
 .W (uN a.length a.length (0+(zE b.1)) a.length) <|
 X (oL (b.2.1.1,(b.2.1.2.1,(b.2.1.2.2.1,()))) (wi a (0+(zE b.1)) (zb zl))) λh =>
 X (oJ e h) λi =>
 oC a <|
 U a <|
 Y (zG ((qo (c+1)),(a,(d,(i,f)))))))
  (U a <|
 Y (zF (a,(d,(e,f)))))
def rQ v1 x x1 s:=zJ (iR v1 x x1) s
def sU(a:vI)(j:Int)(b:zr):T (Rat×zr) :=
 X (vD a.2.2.1) λd =>
 X (yT 1) λe =>
 oC b <|
 U b <|
 X (rQ j a.2.1 (a.2.1.length:Int) (0,(b,((false,(([]:List Int),(([]:List Int),()))),(d,e))))) λ(c,k,f,g) =>
 X (Q1 f) λh =>
 X (sQ h g) λ(i,l) =>
 U c <|
 Y (i,c)
def Vm(f:zy)(g:z7)(h:zr)(d:zr)(e:Int):(Int×zr)->T ((Int×zr)⊕zr)
 | (b,a) =>
 V (zA (b<e))
  (oI b d <|
 X (vD (nth d b (zb zl))) λc =>
 oA a 56 <|
 oM (a.length+1) (a++[c]).length <|
 Y (zG ((qo (b+1)),(a++[c]))))
  (oC a <|
 U a <|
 Y (zF a))
def Ge l1 outs1 val1 x x1 s:=zJ (Vm l1 outs1 val1 x x1) s
def Q7(i:zy)(f:z7)(j:z7)(l:Int):(Int×zr)->T ((Int×zr)⊕(zr⊕(Int×Int×zr)))
 | (d,a)=>let c:=nth j d (zb (.int .i64)); let e:=nth f c (zb (.int .i64));
 V (zA (d<l))
  (oI d j <|
 oI c i <|
 oI c f <|
 oC a <|
 U a <|
 X (sU (nth i c (zb zq)) e a) λ(h,b)=>let g:=zL b (0+(zE e)) h;
 X (cu h) λk =>
 V k
  (U b <|
 Y (zF (zF (c,(8,b)))))
  (oI c f <|
 oI e a <|
 .W (uN a.length b.length (0+(zE e)) b.length) <|
 .W (zu a.length 0 a.length g.length) <|
 .W (b.length=g.length) <|
 Y (zG ((qo (d+1)),g))))
  (oC a <|
 U a <|
 Y (zF (zG a)))
def Gf l2 outs2 x3 x4 s:=zJ (Q7 l2 outs2 x3 x4) s
def KI(b:zy)(c:z7)(a:zr):T (zr×Int×Int) :=
 X (tJ b c (a.length:Int)) λg =>
 V (!g)
  (Y ([],((-1),1)))
  (oZ <|
 X (Ge b c a a (a.length:Int) (0,[])) λd =>
 X (Wb b c (a.length:Int)) λf =>
 oC d <|
 U d <|
 X (Gf b c f (f.length:Int) (0,d)) <|
 zK (λe =>
 U e <|
 Y ((zH 0 (zI (0+e.length) e)),((-1),0)))
  (λ(h,i,j) =>
 Y ([],(h,i))))
def sb(m:zy)(n:j8)(f:z7)(g:zy)(k:Int):(Int×j8×Int)->T ((Int×j8×Int)⊕((j8×Int)⊕(Int×Int×j8×Int)))
 | (a,c,d)=>let b:=nth g a (zb zq);
 V (zA (a<k))
  (oI a g <|
 X (V (b.1==0)
  (oI a f <|
 V (zA ((nth f a (zb (.int .i64)))<0))
  (X (Q8 b) λh =>
 Y ((!h),(c,(d,b))))
  (Y (false,(c,(d,b)))))
  (Y (false,(c,(d,b)))):T ((Bool×j8×Int×vI))) λ(i,j,e,l) =>
 V i
  (Y (zF (zF (a,(10,((([]:List Int),(([]:List Rat),())),e))))))
  (Y (zG ((qo (a+1)),(j,e)))))
  (Y (zF (zG (c,d))))
def Xs l1 s1 outs1 x1 x2 s:=zJ (sb l1 s1 outs1 x1 x2) s
def ta(a:zy)(b:j8):T (j8×Int×Int) :=
 let c:=((([]:List Int),(([]:List Rat),())),(b.2.1.length:Int));  X (V (zA ((b.2.1.length:Int)<1))
  (Y (true,c))
  (V (zA (64<(b.2.1.length:Int)))
  (Y (true,c))
  (V (zA (256<(a.length:Int)))
  (Y (true,c))
  (V ((b.1.length:Int) != (a.length:Int))
  (Y (true,c))
  (X (yO a (λh=>yQ h (b.2.1.length:Int))) λi =>
 Y (i,c))))):T ((Bool×j8×Int))) λ(j,k,d) =>
 V j
  (Y ((([]:List Int),(([]:List Rat),())),((-1),1)))
  (X (mV a d) λf =>
 V (zA (0<=f))
  (Y ((([]:List Int),(([]:List Rat),())),(f,9)))
  (X (oq a b.1 d) λ(e,l) =>
 V (!l)
  (Y ((([]:List Int),(([]:List Rat),())),((-1),1)))
  (X (Xs a b e a (a.length:Int) (0,(k,d))) <|
 zK (λ(r,s) =>
 X (KI a e b.2.1) λ(m,n,g) =>
 V (g != 0)
  (Y ((([]:List Int),(([]:List Rat),())),(n,g)))
  (Y ((e,(m,())),((-1),0))))
  (λ(o,p,q,t) =>
 Y (q,(o,p))))))
def cI(b:Int)(a:uj):T (zo×uj) :=
 let c:=nth a.2.2.2.1 b (zb (.int .i64));  V (zA (b<0))
  (Y ([],a))
  (oI b a.2.2.2.1 <|
 V (zA (c<(a.1.2.2.2.2.1.length:Int)))
  (oI b a.2.2.2.1 <|
 oI c a.1.2.2.2.2.1 <|
 Y (([(nth a.1.2.2.2.2.1 c (zb xl)).1]:List zx),a))
  (oI b a.2.2.2.1 <|
 oI (qo (c-(a.1.2.2.2.2.1.length:Int))) a.1.2.2.2.1 <|
 Y (([(nth a.1.2.2.2.1 (qo (c-(a.1.2.2.2.2.1.length:Int))) (zb qu)).1]:List zx),a)))
def jQ(g:zr)(a:uj):T (zr×zo×Int×uj) :=
 X (ta a.2.1 (a.2.2.1,(g,()))) λ(b,d,c) =>
 V (c != 0)
  (X (cI d a) λ(e,f) =>
 Y ([],(e,(c,f))))
  (Y (b.2.1,([],(0,((a.1.1,(a.1.2.1,(a.1.2.2.1,(a.1.2.2.2.1,(a.1.2.2.2.2.1,(a.1.2.2.2.2.2.1,())))))),(a.2.1,(b.1,(a.2.2.2.1,()))))))))
def jK(a:zr):T zr :=
 .W (a=[]->∀ r,T.leads (.W (vS 0 0 0 0 0 a.length 56) <|
 .W (zu (0+a.length) 0 (0+a.length) a.length) <|
 .W ((0+a.length)=a.length) <|
 Y a:T _) r->T.leads (.W (zu 0 0 0 0) <|
 .W (0=0) <|
 Y []:T _) r) <|
 .W (vS 0 0 0 0 0 a.length 56) <|
 oM (0+a.length) a.length <|
 Y a
def jk(a:zp):T zp :=
 .W (a=[]->∀ r,T.leads (.W (vS 0 0 0 0 0 a.length 1) <|
 .W (zu (0+a.length) 0 (0+a.length) a.length) <|
 .W ((0+a.length)=a.length) <|
 Y a:T _) r->T.leads (.W (zu 0 0 0 0) <|
 .W (0=0) <|
 Y []:T _) r) <|
 .W (vS 0 0 0 0 0 a.length 1) <|
 oM (0+a.length) a.length <|
 Y a
def jE(a:zn):T zn :=
 .W (a=[]->∀ r,T.leads (.W (vS 0 0 0 0 0 a.length 64) <|
 .W (zu (0+a.length) 0 (0+a.length) a.length) <|
 .W ((0+a.length)=a.length) <|
 Y a:T _) r->T.leads (.W (zu 0 0 0 0) <|
 .W (0=0) <|
 Y []:T _) r) <|
 .W (vS 0 0 0 0 0 a.length 64) <|
 oM (0+a.length) a.length <|
 Y a
def lN(a:qe):T (Unit×zr×zp×zr×z7×zn×zp) :=
 X (jK a.1) λb =>
 X (jk a.2.1) λc =>
 X (jK a.2.2.1) λd =>
 X (uQ a.2.2.2.1) λe =>
 X (jE a.2.2.2.2.1) λf =>
 X (jk a.2.2.2.2.2.1) λg =>
 oY b c d e f g <|
 Y ((),(b,(c,(d,(e,(f,g))))))
def cX(l:Int):(Int×uj×(zr×Unit)×qe×zr×zp×zr×z7×zn×zp)->T ((Int×uj×(zr×Unit)×qe×zr×zp×zr×z7×zn×zp)⊕((uj×(zr×Unit)×qe×zr×zp×zr×z7×zn×zp)))
 | (f,i,j,k,b,c,g,a,d,e)=>let h:=zL a (0+(zE f)) (-1);
 V (zA (f<l))
  (oI f a <|
 .W (uN a.length a.length (0+(zE f)) a.length) <|
 oC b <|
 oC c <|
 .W (zu a.length 0 a.length h.length) <|
 oC d <|
 oC e <|
 U b <|
 U c <|
 U g <|
 .W (a.length=h.length) <|
 U d <|
 U e <|
 Y (zG ((qo (f+1)),(i,((j.1,()),(k,(b,(c,(g,(h,(d,e)))))))))))
  (oC b <|
 oC c <|
 oC a <|
 oC d <|
 oC e <|
 oW b c g a d e <|
 Y (zF (i,((j.1,()),(k,(b,(c,(g,(a,(d,e))))))))))
def mN x s:=zJ (cX x) s
def cY(m:z7)(q:Int):(Int×uj×(zr×Unit)×qe×zr×zp×zr×z7×zn×zp)->T ((Int×uj×(zr×Unit)×qe×zr×zp×zr×z7×zn×zp)⊕((uj×(zr×Unit)×qe×zr×zp×zr×z7×zn×zp)))
 | (f,i,k,l,c,d,g,a,b,e)=>let h:=nth i.2.2.2.1 f (zb (.int .i64)); let n:=0+(zE (qo (h-(a.length:Int)))); let o:=zL a (0+(zE h)) (nth m f (zb (.int .i64))); let j:=wi b n (zb zm); let p:=zL b n (j.1,(((nth m f (zb (.int .i64))) != (-1)),((j.2.2.1.1,(j.2.2.1.2.1,(j.2.2.1.2.2.1,()))),())));
 V (zA (f<q))
  (oI f m <|
 oI f i.2.2.2.1 <|
 V (zA (h<(a.length:Int)))
  (oI h a <|
 .W (uN a.length a.length (0+(zE h)) a.length) <|
 oC c <|
 oC d <|
 .W (zu a.length 0 a.length o.length) <|
 oC b <|
 oC e <|
 U c <|
 U d <|
 U g <|
 .W (a.length=o.length) <|
 U b <|
 U e <|
 Y (zG ((qo (f+1)),(i,((k.1,()),(l,(c,(d,(g,(o,(b,e)))))))))))
  (oI (qo (h-(a.length:Int))) b <|
 .W (uN b.length b.length n b.length) <|
 oC c <|
 oC d <|
 oC a <|
 .W (zu b.length 0 b.length p.length) <|
 oC e <|
 U c <|
 U d <|
 U g <|
 U a <|
 .W (b.length=p.length) <|
 U e <|
 Y (zG ((qo (f+1)),(i,((k.1,()),(l,(c,(d,(g,(a,(p,e))))))))))))
  (oC c <|
 oC d <|
 oC a <|
 oC b <|
 oC e <|
 oW c d g a b e <|
 Y (zF (i,((k.1,()),(l,(c,(d,(g,(a,(b,e))))))))))
def mO x2 x3 s:=zJ (cY x2 x3) s
def gy(w:qe)(x:zr)(y:uj):T ((zr×Unit)×uj×zr×zp×z7×zn×zp) :=
 X (lN w) λ(z,b,c,q,a,d,e) =>
 oC b <|
 oC c <|
 oC a <|
 oC d <|
 oC e <|
 oW b c q a d e <|
 X (mN (a.length:Int) (0,(y,((x,()),((([]:List Rat),(([]:List Bool),(([]:List Rat),(([]:List Int),(([]:List qk),(([]:List Bool),())))))),(b,(c,(q,(a,(d,e)))))))))) λ(f,s,t,g,h,r,i,j,k) =>
 oC g <|
 oC h <|
 oC i <|
 oC j <|
 oC k <|
 oW g h r i j k <|
 X (mO f.2.2.1 (f.2.2.1.length:Int) (0,(f,((s.1,()),(t,(g,(h,(r,(i,(j,k)))))))))) λ(u,v,A,l,m,hI,n,o,p) =>
 oC l <|
 oC m <|
 oC n <|
 oC o <|
 oC p <|
 U l <|
 U m <|
 U n <|
 U o <|
 U p <|
 Y ((v.1,()),(u,(l,(m,(n,(o,p))))))
def dG(s:Form)(j:qe):T ((zr×Unit)×zo×Int×zr×zp×z7×zn×zp) :=
 X (cW s j) <|
 zK (λ(k,a,b,c,d) =>
 V (k != 0)
  (.W (zu 0 0 0 0) <|
 .W (zu 0 0 0 0) <|
 .W (zu 0 0 0 0) <|
 .W (zu 0 0 0 0) <|
 oZ <|
 .W (0=0) <|
 .W (0=0) <|
 .W (0=0) <|
 .W (0=0) <|
 Y (([],()),([],(k,([],([],([],([],[]))))))))
  (U b <|
 U c <|
 U d <|
 X (jQ j.2.2.1 ((a.1,(a.2.1,(a.2.2.1,(a.2.2.2.1,(a.2.2.2.2.1,(a.2.2.2.2.2.1,())))))),((zH 0 (zI (0+b.length) b)),((zH 0 (zI (0+c.length) c)),((zH 0 (zI (0+d.length) d)),()))))) λ(n,o,l,p) =>
 V (l != 0)
  (.W (zu 0 0 0 0) <|
 .W (zu 0 0 0 0) <|
 .W (zu 0 0 0 0) <|
 .W (zu 0 0 0 0) <|
 oZ <|
 .W (0=0) <|
 .W (0=0) <|
 .W (0=0) <|
 .W (0=0) <|
 Y (([],()),(o,(l,([],([],([],([],[]))))))))
  (X (gy j n p) λ(q,t,e,f,g,h,i) =>
 oC e <|
 oC f <|
 oC g <|
 oC h <|
 oC i <|
 U e <|
 U f <|
 U g <|
 U h <|
 U i <|
 Y ((q.1,()),([],(0,(e,(f,(g,(h,i))))))))))
  (λ(r,m) =>
 V (m != 0)
  (.W (zu 0 0 0 0) <|
 .W (zu 0 0 0 0) <|
 .W (zu 0 0 0 0) <|
 .W (zu 0 0 0 0) <|
 oZ <|
 .W (0=0) <|
 .W (0=0) <|
 .W (0=0) <|
 .W (0=0) <|
 Y (([],()),(r,(m,([],([],([],([],[]))))))))
  (.fail))
def Zp(s:Form)(n:qg)(p:Int):(Int×Unit×Unit×zp×zp×zp×zp×zn×zn×z7×z7×zr×zr×zr×zr)->T ((Int×Unit×Unit×zp×zp×zp×zp×zn×zn×z7×z7×zr×zr×zr×zr)⊕((Unit×Unit×zp×zp×zp×zp×zn×zn×z7×z7×zr×zr×zr×zr)))
 | (b,q,r,c,d,e,f,g,h,i,j,k,l,a,m) =>
 V (zA (b<p))
  (oI b n <|
 X (vD ((nth n b (zb qf)).2.1.1,((nth n b (zb qf)).2.1.2.1,((nth n b (zb qf)).2.1.2.2.1,())))) λo =>
 oA a 56 <|
 oV k c l i g d <|
 .W (zu (a.length+1) 0 (a.length+1) (a++[o]).length) <|
 oC e <|
 oC m <|
 oC j <|
 oC h <|
 oC f <|
 oW c d e f g h <|
 U i <|
 U j <|
 U k <|
 U l <|
 .W ((a.length+1)=(a++[o]).length) <|
 U m <|
 Y (zG ((qo (b+1)),((),((),(c,(d,(e,(f,(g,(h,(i,(j,(k,(l,((a++[o]),m))))))))))))))))
  (oV k c l i g d <|
 oV a e m j h f <|
 oW c d e f g h <|
 oW i j k l a m <|
 Y (zF ((),((),(c,(d,(e,(f,(g,(h,(i,(j,(k,(l,(a,m)))))))))))))))
def VM f1 x x1 s:=zJ (Zp f1 x x1) s
def Zq(s:Form)(o:qc)(p:Int):(Int×Unit×Unit×zp×zp×zp×zp×zn×zn×z7×z7×zr×zr×zr×zr)->T ((Int×Unit×Unit×zp×zp×zp×zp×zn×zn×z7×z7×zr×zr×zr×zr)⊕((Unit×Unit×zp×zp×zp×zp×zn×zn×z7×z7×zr×zr×zr×zr)))
 | (m,q,r,b,c,a,d,e,f,g,h,i,j,k,l)=>let n:=a++([(nth o m (zb qq)).2.1]:List Bool);
 V (zA (m<p))
  (oI m o <|
 oA a 1 <|
 oV i b j g e c <|
 oC k <|
 .W (zu (a.length+1) 0 (a.length+1) n.length) <|
 oC l <|
 oC h <|
 oC f <|
 oC d <|
 U b <|
 U c <|
 .W ((a.length+1)=n.length) <|
 oW d e f g h i <|
 U j <|
 U k <|
 U l <|
 Y (zG ((qo (m+1)),((),((),(b,(c,(n,(d,(e,(f,(g,(h,(i,(j,(k,l))))))))))))))))
  (oV i b j g e c <|
 oV k a l h f d <|
 oW b c a d e f <|
 oW g h i j k l <|
 Y (zF ((),((),(b,(c,(a,(d,(e,(f,(g,(h,(i,(j,(k,l)))))))))))))))
def VN f2 x3 x4 s:=zJ (Zq f2 x3 x4) s
def Zr(t:Form)(q:Int):(Int×Unit×Unit×zp×zp×zp×zp×zn×zn×z7×z7×zr×zr×zr×zr)->T ((Int×Unit×Unit×zp×zp×zp×zp×zn×zn×z7×z7×zr×zr×zr×zr)⊕((Unit×Unit×zp×zp×zp×zp×zn×zn×z7×z7×zr×zr×zr×zr)))
 | (p,r,s,d,e,f,a,g,c,h,i,j,k,l,b) =>
 V (zA (p<q))
  (X (yT 0) λm =>
 oA b 56 <|
 X (yT 0) λn=>let o:=c++([(false,(false,((n.1,(n.2.1,(n.2.2.1,()))),())))]:List qk);
 oA c 64 <|
 oA a 1 <|
 oV j d k h g e <|
 oC l <|
 oC f <|
 .W (zu (b.length+1) 0 (b.length+1) (b++[m]).length) <|
 oC i <|
 .W (zu (c.length+1) 0 (c.length+1) o.length) <|
 .W (zu (a.length+1) 0 (a.length+1) (a++[false]).length) <|
 U d <|
 U e <|
 U f <|
 .W ((a.length+1)=(a++[false]).length) <|
 U g <|
 .W ((c.length+1)=o.length) <|
 U h <|
 U i <|
 U j <|
 U k <|
 U l <|
 .W ((b.length+1)=(b++[m]).length) <|
 Y (zG ((qo (p+1)),((),((),(d,(e,(f,((a++[false]),(g,(o,(h,(i,(j,(k,(l,(b++[m])))))))))))))))))
  (oV j d k h g e <|
 oV l f b i c a <|
 oW d e f a g c <|
 oW h i j k l b <|
 Y (zF ((),((),(d,(e,(f,(a,(g,(c,(h,(i,(j,(k,(l,b)))))))))))))))
def VO f3 x6 s:=zJ (Zr f3 x6) s
def Zs(q:Form)(n:Int):(Int×Unit×Unit×zp×zp×zp×zp×zn×zn×z7×z7×zr×zr×zr×zr)->T ((Int×Unit×Unit×zp×zp×zp×zp×zn×zn×z7×z7×zr×zr×zr×zr)⊕((Unit×Unit×zp×zp×zp×zp×zn×zn×z7×z7×zr×zr×zr×zr)))
 | (m,o,p,b,c,d,e,f,g,h,a,i,j,k,l) =>
 V (zA (m<n))
  (oA a 8 <|
 oV i b j h f c <|
 oC k <|
 oC d <|
 oC l <|
 .W (zu (a.length+1) 0 (a.length+1) (a++([(-1)]:List Int)).length) <|
 oC g <|
 oC e <|
 oW b c d e f g <|
 U h <|
 .W ((a.length+1)=(a++([(-1)]:List Int)).length) <|
 U i <|
 U j <|
 U k <|
 U l <|
 Y (zG ((qo (m+1)),((),((),(b,(c,(d,(e,(f,(g,(h,((a++([(-1)]:List Int)),(i,(j,(k,l))))))))))))))))
  (oV i b j h f c <|
 oV k d l a g e <|
 oW b c d e f g <|
 oW h a i j k l <|
 Y (zF ((),((),(b,(c,(d,(e,(f,(g,(h,(a,(i,(j,(k,l)))))))))))))))
def VP f4 x8 s:=zJ (Zs f4 x8) s
def XK(a:Form):T ((zr×Unit)×zo×Int×zr×zp×z7×zn×zp) :=
 .W (zu 0 0 0 0) <|
 .W (zu 0 0 0 0) <|
 .W (zu 0 0 0 0) <|
 .W (zu 0 0 0 0) <|
 .W (zu 0 0 0 0) <|
 .W (zu 0 0 0 0) <|
 .W (zu 0 0 0 0) <|
 .W (zu 0 0 0 0) <|
 .W (zu 0 0 0 0) <|
 .W (zu 0 0 0 0) <|
 .W (zu 0 0 0 0) <|
 oZ <|
 .W (0=0) <|
 .W (0=0) <|
 .W (0=0) <|
 .W (0=0) <|
 .W (0=0) <|
 .W (0=0) <|
 .W (0=0) <|
 .W (0=0) <|
 .W (0=0) <|
 .W (0=0) <|
 .W (0=0) <|
 X (VM a a.2.1 (a.2.1.length:Int) (0,((),((),([],([],([],([],([],([],([],([],([],([],([],[]))))))))))))))) λ(ac,ad,b,c,d,e,f,g,h,i,j,k,l,m) =>
 oV j b k h f c <|
 oV l d m i g e <|
 oW b c d e f g <|
 oW h i j k l m <|
 X (VN a a.1 (a.1.length:Int) (0,((),((),(b,(c,(d,(e,(f,(g,(h,(i,(j,(k,(l,m))))))))))))))) λ(ae,af,n,o,p,q,r,s,t,u,v,w,x,y) =>
 oV v n w t r o <|
 oV x p y u s q <|
 oW n o p q r s <|
 oW t u v w x y <|
 X (VO a (a.2.2.2.1.length:Int) (0,((),((),(n,(o,(p,(q,(r,(s,(t,(u,(v,(w,(x,y))))))))))))))) λ(ag,ah,z,A,hI,C,D,κ',G,H,hb,hd,K,L) =>
 oV hb z hd G D A <|
 oV K hI L H κ' C <|
 oW z A hI C D κ' <|
 oW G H hb hd K L <|
 X (VP a (a.2.2.2.2.1.length:Int) (0,((),((),(z,(A,(hI,(C,(D,(κ',(G,(H,(hb,(hd,(K,L))))))))))))))) λ(ai,aj,ak,al,h2,hx,am,κ,an,P,ao,ap,hl,S) =>
 oW hl h2 S P κ hx <|
 X (dG a ((zH 0 (zI (0+hl.length) hl)),((zH 0 (zI (0+h2.length) h2)),((zH 0 (zI (0+S.length) S)),((zH 0 (zI (0+P.length) P)),((zH 0 (zI (0+κ.length) κ)),((zH 0 (zI (0+hx.length) hx)),()))))))) λ(z6,aa,ab,oE,zD,zk,zC,zB) =>
 oC oE <|
 oC zD <|
 oC zk <|
 oC zC <|
 oC zB <|
 U oE <|
 U zD <|
 U zk <|
 U zC <|
 U zB <|
 Y ((z6.1,()),(aa,(ab,(oE,(zD,(zk,(zC,zB)))))))
def yv(a:Switch)(b:eK):T Bool :=
 Y (wK a.1 b.2.1)
def mc(d:zp)(h:Form)(f:xc)(i:Int):(Int×zp)->T ((Int×zp)⊕zp)
 | (b,a)=>let e:=a++[false];
 V (zA (b<i))
  (oI b f <|
 X (wa h.1 (λg=>yv g (nth f b (zb xp)))) λc =>
 V (wK (nth f b (zb xp)).2.1 [])
  (oA a 1 <|
 oM (a.length+1) (a++[true]).length <|
 Y (zG ((qo (b+1)),(a++[true]))))
  (V (zA (0<=c))
  (V (zA (c<(d.length:Int)))
  (oI c d <|
 oA a 1 <|
 oM (a.length+1) (a++([(nth d c (zb .bool))]:List Bool)).length <|
 Y (zG ((qo (b+1)),(a++([(nth d c (zb .bool))]:List Bool)))))
  (oA a 1 <|
 oM (a.length+1) e.length <|
 Y (zG ((qo (b+1)),e))))
  (oA a 1 <|
 oM (a.length+1) e.length <|
 Y (zG ((qo (b+1)),e)))))
  (oC a <|
 U a <|
 Y (zF a))
def Z3 on1 f1 x x1 s:=zJ (mc on1 f1 x x1) s
def kf(b:Form)(c:zp):T zp :=
 oZ <|
 X (Z3 c b b.2.2.1 (b.2.2.1.length:Int) (0,[])) λa =>
 U a <|
 Y (zH 0 (zI (0+a.length) a))
def nC(l:List Bool)(at_:Int):Nat->Int×Bool
 | 0=>(at_,false)
 | k+1=>if l[k]?.getD false=true/\(k:Int)<at_ then((k:Int),true)else nC l at_ k
def pj(b:Form)(c:zp)(d:Int):T (Int×Bool) :=
 X (kf b c) λa=>.W (a.length*8<=140737488351232) (Y (nC a d a.length))
def ZX(c:Int)(b:zp)(d:Int):Int->T (Int⊕(Unit⊕(Int×Bool)))
 | a =>
 V (zA (a<d))
  (oI a b <|
 V ((nth b a (zb .bool))&&(zA (c<a)))
  (Y (zF (zF (a,true))))
  (Y (zG (qo (a+1)))))
  (Y (zF (zG ())))
def Ut at_1 x x1 s:=zJ (ZX at_1 x x1) s
def pn(e:Form)(f:zp)(b:Int):T (Int×Bool) :=
 X (kf e f) λa =>
 X (Ut b a (a.length:Int) 0) <|
 zK (λ_ =>
 Y (b,false))
  (λ(c,d) =>
 Y (c,d))
def Z2(c:Form)(d:zp)(a:Int):T Int :=
 X (kf c d) λb =>
 .W (((zA (0<=a))=true)->(((zA (a<(b.length:Int)))=true)->(xe a b.length))) <|
 V ((zA (0<=a))&&((zA (a<(b.length:Int)))&&(nth b a (zb .bool))))
  (Y a)
  (X (pj c d a) λ(e,f) =>
 V f
  (Y e)
  (X (pn c d a) λ(g,h) =>
 V h
  (Y g)
  (Y 0)))
def fX(j:Form):T ((zx×Int×zw)⊕(zx×Int)) :=
 X (fD j) λ(h,k) =>
 V (h != 0)
  (Y (zF (k,h)))
  (X (Zz j) λa =>
 X (XK a) λ(l,b,i,d,c,e,f,g) =>
 V (i != 0)
  (.W (((b.length+1)*16)<=140737488355328) <|
 .W (xe 0 (b.length+1)) <|
 .W (uN (b.length+1) (b.length+1) (0+(zE 0)) (b++([[]]:List zx)).length) <|
 Y (zF ((wi (b++([[]]:List zx)) (0+(zE 0)) (zb .str)),i)))
  (U d <|
 U c <|
 U e <|
 U f <|
 U g <|
 X (Z2 a (zH 0 (zI (0+c.length) c)) 0) λm =>
 Y (zG ([],(0,((a.1,(a.2.1,(a.2.2.1,(a.2.2.2.1,(a.2.2.2.2.1,(a.2.2.2.2.2.1,())))))),(((zH 0 (zI (0+d.length) d)),((zH 0 (zI (0+c.length) c)),(l.1,((zH 0 (zI (0+e.length) e)),((zH 0 (zI (0+f.length) f)),((zH 0 (zI (0+g.length) g)),())))))),((([]:List zx),(([]:List zx),())),(m,(false,()))))))))))
def dF(a:Field)(b:zx):T Bool :=
 Y (wK a.1 b)
def cm(b:qm)(d:Field->T Bool)(e:Int):Int->T (Int⊕(Unit⊕Int))
 | a =>
 V (zA (a<e))
  (oI a b <|
 X (d (nth b a (zb qu))) λc =>
 V c
  (Y (zF (zF a)))
  (Y (zG (qo (a+1)))))
  (Y (zF (zG ())))
def o5 s1 f x s:=zJ (cm s1 f x) s
def gi(a:qm)(c:Field->T Bool):T Int :=
 X (o5 a c (a.length:Int) 0) <|
 zK (λ_ =>
 Y (-1))
  (λb =>
 Y b)
def tN(c:Form)(d:zx):T Int :=
 X (gi c.2.2.2.1 (λa=>dF a d)) λb =>
 Y b
def bO(a:Rat):T Bool :=
 X (tq a) λb =>
 V b
  (X (cu a) λc =>
 Y (!c))
  (Y false)
def eW(b:Rat):T Bool :=
 X (bO b) λa =>
 Y (!a)
def J0(a:qk):T Bool :=
 X (bO a.2.2.1) λb =>
 V b
  (V a.1
  (Y true)
  (V (!a.2.1)
  (X (iI a.2.2.1) λc =>
 Y c)
  (Y false)))
  (Y false)
def eX(b:qk):T Bool :=
 X (J0 b) λa =>
 Y (!a)
def bB(b:zn)(d:qk->T Bool)(e:Int):Int->T (Int⊕(Unit⊕Int))
 | a =>
 V (zA (a<e))
  (oI a b <|
 X (d (nth b a (zb zm))) λc =>
 V c
  (Y (zF (zF a)))
  (Y (zG (qo (a+1)))))
  (Y (zF (zG ())))
def mh s1 f x s:=zJ (bB s1 f x) s
def yh(a:zn)(c:qk->T Bool):T Int :=
 X (mh a c (a.length:Int) 0) <|
 zK (λ_ =>
 Y (-1))
  (λb =>
 Y b)
def uv(b:zn)(c:qk->T Bool):T Bool :=
 X (yh b c) λa =>
 Y (zA (0<=a))
def XD(h:zr)(b:wB)(i:Int):(Int×Rat×Rat)->T ((Int×Rat×Rat)⊕((Rat×Rat)))
 | (a,c,d) =>
 V (zA (a<i))
  (oI a b <|
 X (lD h (nth b a (zb qj)).1) λe =>
 X (oL ((nth b a (zb qj)).2.1.1,((nth b a (zb qj)).2.1.2.1,((nth b a (zb qj)).2.1.2.2.1,()))) e) λf =>
 X (oJ d f) λg =>
 Y (zG ((qo (a+1)),(c,g))))
  (Y (zF (c,d)))
def UR val1 x x1 s:=zJ (XD val1 x x1) s
def BT(a:vI)(d:zr):T Rat :=
 X (vD a.2.2.1) λb =>
 X (UR d a.2.1 (a.2.1.length:Int) (0,((false,(([]:List Int),(([]:List Int),()))),b))) λ(e,c) =>
 Y c
def sE(c:vI)(d:zr):T Bool :=
 X (BT c d) λa =>
 X (iI a) λb =>
 Y b
def y8(f:wB)(l:Int):(Int×Int×Int×(zy×Unit)×z7×z7)->T ((Int×Int×Int×(zy×Unit)×z7×z7)⊕((Int×(zy×Unit)×z7×z7)))
 | (i,j,a,k,d,e) =>
 V (zA (a<l))
  (oI a f <|
 oC d <|
 oC e <|
 U d <|
 U e <|
 X (jH (nth f a (zb qj)).1 (k.1,()) d e) λ(g,h,b,c) =>
 .W (wfI (nth f a (zb qj)).1) <|
 V ((!false)&&(zA (j<g)))
  (oC b <|
 oC c <|
 U b <|
 U c <|
 Y (zG ((nth f a (zb qj)).1,(g,((qo (a+1)),((h.1,()),(b,c)))))))
  (oC b <|
 oC c <|
 U b <|
 U c <|
 Y (zG (i,(j,((qo (a+1)),((h.1,()),(b,c))))))))
  (oC d <|
 oC e <|
 U d <|
 U e <|
 Y (zF (i,((k.1,()),(d,e)))))
def cH x x1 s:=zJ (y8 x x1) s
def gP(b:Int)(a:(zy×Unit))(e:z7)(f:z7):T (Int×(zy×Unit)×z7×z7) :=
 oI b a.1 <|
 oI b a.1 <|
 oC e <|
 oC f <|
 U e <|
 U f <|
 X (cH (nth a.1 b (zb zq)).2.1 (zN (zO (nth a.1 b (zb zq)).2.1):Int) ((-1),((nth a.1 b (zb zq)).1,(0,((a.1,()),(e,f)))))) λ(g,h,c,d) =>
 oC c <|
 oC d <|
 U c <|
 U d <|
 Y (g,((h.1,()),(c,d)))
def mw(d:zy)(i:z7)(j:Int)(b:Int):T Bool :=
 X (bh d i j) <|
 zK (λ(e,f,a,c) =>
 V e
  (V (zA (0<=b))
  (V (zA (b<(d.length:Int)))
  (oI b a <|
 .W (uN a.length a.length (0+(zE b)) a.length) <|
 V ((wi a (0+(zE b)) (zb (.int .i64)))==(-1))
  (oC a <|
 oC c <|
 U a <|
 U c <|
 X (gP b (f.1,()) a c) λ(g,k,l,m) =>
 Y (g==(-1)))
  (Y false))
  (Y false))
  (Y false))
  (Y false))
  (λh =>
 V h
  (V (zA (0<=b))
  (V (zA (b<(d.length:Int)))
  (.fail)
  (Y false))
  (Y false))
  (Y false))
def hJ(g:Int)(m:zr)(j:(qc×qg×xc×qm×xa×qp×Unit))(a:zy)(b:z7)(e:z7):T (Bool×(qc×qg×xc×qm×xa×qp×Unit)×zy×z7×z7) :=
 let k:=(j.1,(j.2.1,(j.2.2.1,(j.2.2.2.1,(j.2.2.2.2.1,(j.2.2.2.2.2.1,())))))); let h:=wi a (0+(zE g)) (zb zq);  oI g a <|
 .W (uN a.length a.length (0+(zE g)) a.length) <|
 oI g b <|
 .W (uN b.length b.length (0+(zE g)) b.length) <|
 V ((wi b (0+(zE g)) (zb (.int .i64))) != (-1))
  (X (sE h m) λo =>
 oC a <|
 oC b <|
 oC e <|
 U a <|
 U b <|
 U e <|
 Y (o,(k,(a,(b,e)))))
  (X (V ((h.2.1.length:Int)==0)
  (X (iI (h.2.2.1.1,(h.2.2.1.2.1,(h.2.2.1.2.2.1,())))) λp =>
 oC a <|
 oC b <|
 oC e <|
 U a <|
 U b <|
 U e <|
 Y (p,(k,(a,(b,(e,h))))))
  (oC a <|
 oC b <|
 oC e <|
 U a <|
 U b <|
 U e <|
 Y (false,(k,(a,(b,(e,h)))))):T ((Bool×(qc×qg×xc×qm×xa×qp×Unit)×zy×z7×z7×vI))) λ(q,i,c,d,f,r)=>let n:=mw (zH 0 (zI (0+c.length) c)) (zH 0 (zI (0+d.length) d)) (m.length:Int) g; let l:=((i.1,(i.2.1,(i.2.2.1,(i.2.2.2.1,(i.2.2.2.2.1,(i.2.2.2.2.2.1,())))))),(c,(d,f)));
 V (r.1 != 0)
  (U c <|
 U d <|
 X n λs =>
 oC c <|
 oC d <|
 oC f <|
 U c <|
 U d <|
 U f <|
 Y (s,l))
  (V q
  (U c <|
 U d <|
 X n λt =>
 oC c <|
 oC d <|
 oC f <|
 U c <|
 U d <|
 U f <|
 Y (t,l))
  (oC c <|
 oC d <|
 oC f <|
 U c <|
 U d <|
 U f <|
 Y (false,l))))
def UY(p:qe)(k:z7)(o:Int):(Int×(qc×qg×xc×qm×xa×qp×Unit)×zy×z7×z7)->T ((Int×(qc×qg×xc×qm×xa×qp×Unit)×zy×z7×z7)⊕(((qc×qg×xc×qm×xa×qp×Unit)×zy×z7×z7)⊕(Bool×(qc×qg×xc×qm×xa×qp×Unit)×zy×z7×z7)))
 | (i,e,b,c,a)=>let j:=((e.1,(e.2.1,(e.2.2.1,(e.2.2.2.1,(e.2.2.2.2.1,(e.2.2.2.2.2.1,())))))),(b,(c,a)));
 V (zA (i<o))
  (oI i k <|
 X (V ((nth k i (zb (.int .i64))) != (-1))
  (U a <|
 X (jl (zH 0 (zI (0+a.length) a)) i) λm =>
 oC b <|
 oC c <|
 oC a <|
 U b <|
 U c <|
 U a <|
 Y ((!m),j))
  (oC b <|
 oC c <|
 oC a <|
 U b <|
 U c <|
 U a <|
 Y (false,j)):T ((Bool×(qc×qg×xc×qm×xa×qp×Unit)×zy×z7×z7))) λ(n,d,f,g,h)=>let l:=((d.1,(d.2.1,(d.2.2.1,(d.2.2.2.1,(d.2.2.2.2.1,(d.2.2.2.2.2.1,())))))),(f,(g,h)));
 V n
  (oC f <|
 oC g <|
 oC h <|
 U f <|
 U g <|
 U h <|
 Y (zF (zF (false,l))))
  (oC f <|
 oC g <|
 oC h <|
 U f <|
 U g <|
 U h <|
 Y (zG ((qo (i+1)),l))))
  (oC b <|
 oC c <|
 oC a <|
 U b <|
 U c <|
 U a <|
 Y (zF (zG j)))
def HA d1 x x1 s:=zJ (UY d1 x x1) s
def UZ(m:qe)(n:Int):(Int×(qc×qg×xc×qm×xa×qp×Unit)×zy×z7×z7)->T ((Int×(qc×qg×xc×qm×xa×qp×Unit)×zy×z7×z7)⊕(((qc×qg×xc×qm×xa×qp×Unit)×zy×z7×z7)⊕(Bool×(qc×qg×xc×qm×xa×qp×Unit)×zy×z7×z7)))
 | (i,b,c,d,e)=>let j:=(b.1,(b.2.1,(b.2.2.1,(b.2.2.2.1,(b.2.2.2.2.1,(b.2.2.2.2.2.1,()))))));
 V (zA (i<n))
  (oC c <|
 oC d <|
 oC e <|
 U c <|
 U d <|
 U e <|
 X (hJ i m.2.2.1 j c d e) λ(l,a,f,g,h)=>let k:=((a.1,(a.2.1,(a.2.2.1,(a.2.2.2.1,(a.2.2.2.2.1,(a.2.2.2.2.2.1,())))))),(f,(g,h)));
 V (!l)
  (oC f <|
 oC g <|
 oC h <|
 U f <|
 U g <|
 U h <|
 Y (zF (zF (false,k))))
  (oC f <|
 oC g <|
 oC h <|
 U f <|
 U g <|
 U h <|
 Y (zG ((qo (i+1)),k))))
  (oC c <|
 oC d <|
 oC e <|
 U c <|
 U d <|
 U e <|
 Y (zF (zG (j,(c,(d,e))))))
def HB d2 x5 s:=zJ (UZ d2 x5) s
def QO(t:Form)(a:qe):T Bool :=
 X (cW t a) <|
 zK (λ(k,d,g,h,i) =>
 V (k != 0)
  (Y false)
  (X (vw a.2.2.1 (λb=>eW b)) λl =>
 V l
  (Y false)
  (X (uv a.2.2.2.2.1 (λb=>eX b)) λm =>
 V m
  (Y false)
  (oC g <|
 oC h <|
 oC i <|
 U g <|
 U h <|
 U i <|
 X (HA a a.2.2.2.1 (a.2.2.2.1.length:Int) (0,((d.1,(d.2.1,(d.2.2.1,(d.2.2.2.1,(d.2.2.2.2.1,(d.2.2.2.2.2.1,())))))),(g,(h,i))))) <|
 zK (λ(e,c,f,j) =>
 U c <|
 U f <|
 X (tJ (zH 0 (zI (0+c.length) c)) (zH 0 (zI (0+f.length) f)) (a.2.2.1.length:Int)) λn =>
 V (!n)
  (Y false)
  (oC c <|
 oC f <|
 oC j <|
 U c <|
 U f <|
 U j <|
 X (HB a (c.length:Int) (0,((e.1,(e.2.1,(e.2.2.1,(e.2.2.2.1,(e.2.2.2.2.1,(e.2.2.2.2.2.1,())))))),(c,(f,j))))) <|
 zK (λ(u,v,w,x) =>
 Y true)
  (λ(o,y,z,A,hI) =>
 Y o)))
  (λ(p,C,D,κ',G) =>
 Y p)))))
  (λ(H,q) =>
 V (q != 0)
  (Y false)
  (X (vw a.2.2.1 (λb=>eW b)) λr =>
 V r
  (Y false)
  (X (uv a.2.2.2.2.1 (λb=>eX b)) λs =>
 V s
  (Y false)
  (.fail))))
def VL(s:Form)(h:qe)(t:zx)(x:Rat):T (qe×zo×Int) :=
 X (tN s t) λf =>
 X (QO s h) λy =>
 V (!y)
  (Y ((([]:List Rat),(([]:List Bool),(([]:List Rat),(([]:List Int),(([]:List qk),(([]:List Bool),())))))),([],1)))
  (V (zA (f<0))
  (Y ((([]:List Rat),(([]:List Bool),(([]:List Rat),(([]:List Int),(([]:List qk),(([]:List Bool),())))))),([],5)))
  (X (bO x) λz =>
 V (!z)
  (Y ((([]:List Rat),(([]:List Bool),(([]:List Rat),(([]:List Int),(([]:List qk),(([]:List Bool),())))))),([t],8)))
  (X (cW s h) <|
 zK (λ(g,d,i,j,k) =>
 V (g != 0)
  (Y ((([]:List Rat),(([]:List Bool),(([]:List Rat),(([]:List Int),(([]:List qk),(([]:List Bool),())))))),([],g)))
  (oC i <|
 oC j <|
 oC k <|
 U i <|
 U j <|
 U k <|
 X (kJ f x (-1) (d.1,(d.2.1,(d.2.2.1,(d.2.2.2.1,(d.2.2.2.2.1,(d.2.2.2.2.2.1,())))))) i j k) λ(e,l,m,n) =>
 U l <|
 U m <|
 U n <|
 X (jQ h.2.2.1 ((e.1,(e.2.1,(e.2.2.1,(e.2.2.2.1,(e.2.2.2.2.1,(e.2.2.2.2.2.1,())))))),((zH 0 (zI (0+l.length) l)),((zH 0 (zI (0+m.length) m)),((zH 0 (zI (0+n.length) n)),()))))) λ(A,hI,u,a)=>let b:=qo ((a.2.1.length:Int)-1);
 V (u != 0)
  (Y ((([]:List Rat),(([]:List Bool),(([]:List Rat),(([]:List Int),(([]:List qk),(([]:List Bool),())))))),(hI,u)))
  (oI b a.2.2.1 <|
 V ((nth a.2.2.1 b (zb (.int .i64)))==(-1:Int))
  (Y ((([]:List Rat),(([]:List Bool),(([]:List Rat),(([]:List Int),(([]:List qk),(([]:List Bool),())))))),([t],11)))
  (.W (jy 0 b a.2.1.length) <|
 .W (jy 0 b a.2.2.1.length) <|
 .W (jy 0 b a.2.2.2.1.length) <|
 X (jQ A ((a.1.1,(a.1.2.1,(a.1.2.2.1,(a.1.2.2.2.1,(a.1.2.2.2.2.1,(a.1.2.2.2.2.2.1,())))))),((jG (e:=zq) 0 b a.2.1),((jG (e:=(.int .i64)) 0 b a.2.2.1),((jG (e:=(.int .i64)) 0 b a.2.2.2.1),()))))) λ(C,D,v,κ') =>
 V (v != 0)
  (Y ((([]:List Rat),(([]:List Bool),(([]:List Rat),(([]:List Int),(([]:List qk),(([]:List Bool),())))))),(D,v)))
  (X (gy h C κ') λ(G,hb,o,p,q,r,c) =>
 oI f c <|
 .W (uN c.length c.length (0+(zE f)) c.length) <|
 U o <|
 U p <|
 U q <|
 U r <|
 U c <|
 Y (((zH 0 (zI (0+o.length) o)),((zH 0 (zI (0+p.length) p)),(G.1,((zH 0 (zI (0+q.length) q)),((zH 0 (zI (0+r.length) r)),((zH 0 (zI (0+c.length) (zL c (0+(zE f)) true))),())))))),([],0)))))))
  (λ(H,w) =>
 V (w != 0)
  (Y ((([]:List Rat),(([]:List Bool),(([]:List Rat),(([]:List Int),(([]:List qk),(([]:List Bool),())))))),(H,w)))
  (.fail)))))
def tP(e:Rat->T zx)(d:zr)(f:Int):(zx×Int)->T ((zx×Int)⊕zx)
 | (c,a) =>
 V (zA (a<f))
  (oI a d <|
 X (e (nth d a (zb zl))) λb =>
 oK [32] b <|
 oK c (cat [32] b) <|
 Y (zG ((cat c (cat [32] b)),(qo (a+1)))))
  (Y (zF c))
def J1 text x x1 s:=zJ (tP text x x1) s
def mD(c:zx)(b:zr)(d:Rat->T zx):T zx :=
 X (J1 d b (b.length:Int) (c,0)) λa =>
 oK a [10] <|
 Y (cat a [10])
def dH(a:Bool):T zx :=
 V a
  (Y [49])
  (Y [48])
def sB(e:Bool->T zx)(d:zp)(f:Int):(zx×Int)->T ((zx×Int)⊕zx)
 | (c,a) =>
 V (zA (a<f))
  (oI a d <|
 X (e (nth d a (zb .bool))) λb =>
 oK [32] b <|
 oK c (cat [32] b) <|
 Y (zG ((cat c (cat [32] b)),(qo (a+1)))))
  (Y (zF c))
def VR text x x1 s:=zJ (sB text x x1) s
def fR(c:zx)(b:zp)(d:Bool->T zx):T zx :=
 X (VR d b (b.length:Int) (c,0)) λa =>
 oK a [10] <|
 Y (cat a [10])
def lQ(a:Int):T zx :=
 V (zA (a<0))
  (Y [45])
  (X (strconv_Itoa a) λb =>
 Y b)
def tQ(e:Int->T zx)(d:z7)(f:Int):(zx×Int)->T ((zx×Int)⊕zx)
 | (c,a) =>
 V (zA (a<f))
  (oI a d <|
 X (e (nth d a (zb (.int .i64)))) λb =>
 oK [32] b <|
 oK c (cat [32] b) <|
 Y (zG ((cat c (cat [32] b)),(qo (a+1)))))
  (Y (zF c))
def J2 text x x1 s:=zJ (tQ text x x1) s
def th(c:zx)(b:z7)(d:Int->T zx):T zx :=
 X (J2 d b (b.length:Int) (c,0)) λa =>
 oK a [10] <|
 Y (cat a [10])
def lR(a:qk):T zx :=
 V (!a.1)
  (Y [45])
  (V a.2.1
  (X (gp a.2.2.1) λb =>
 oK b [33] <|
 Y (cat b [33]))
  (X (gp a.2.2.1) λc =>
 Y c))
def mP(e:qk->T zx)(d:zn)(f:Int):(zx×Int)->T ((zx×Int)⊕zx)
 | (c,a) =>
 V (zA (a<f))
  (oI a d <|
 X (e (nth d a (zb zm))) λb =>
 oK [32] b <|
 oK c (cat [32] b) <|
 Y (zG ((cat c (cat [32] b)),(qo (a+1)))))
  (Y (zF c))
def QS text x x1 s:=zJ (mP text x x1) s
def fS(c:zx)(b:zn)(d:qk->T zx):T zx :=
 X (QS d b (b.length:Int) (c,0)) λa =>
 oK a [10] <|
 Y (cat a [10])
def cZ(b:qe):T zx :=
 X (mD [112,97,114,97,109,115] b.1 (λa=>gp a)) λc =>
 X (fR [111,110] b.2.1 (λa=>dH a)) λd =>
 oK c d <|
 X (mD [118,97,108,115] b.2.2.1 (λa=>gp a)) λg =>
 oK (cat c d) g <|
 X (th [111,117,116,115] b.2.2.2.1 (λa=>lQ a)) λi=>let f:=cat (cat (cat c d) g) i;
 oK (cat (cat c d) g) i <|
 X (fS [112,105,110,115] b.2.2.2.2.1 (λa=>lR a)) λe =>
 oK f e <|
 X (fR [102,105,108,108,101,100] b.2.2.2.2.2.1 (λa=>dH a)) λh =>
 oK (cat f e) h <|
 oK (cat (cat f e) h) [101,110,100,10] <|
 Y (cat (cat (cat f e) h) [101,110,100,10])
def wR(a:zo):T zo :=
 .W (a=[]->∀ r,T.leads (.W (vS 0 0 0 0 0 a.length 16) <|
 .W (zu (0+a.length) 0 (0+a.length) a.length) <|
 .W ((0+a.length)=a.length) <|
 Y a:T _) r->T.leads (.W (zu 0 0 0 0) <|
 .W (0=0) <|
 Y []:T _) r) <|
 .W (vS 0 0 0 0 0 a.length 16) <|
 oM (0+a.length) a.length <|
 Y a
def XN(d:uF)(e:zx):T uF :=
 X (wR d.1) λc=>let a:=c.length+1; let b:=l8 0 (qo ((zN a:Int)-32));
 oA c 16 <|
 .W (jy b (zN a:Int) a) <|
 .W (a=a) <|
 Y ((zH (0+(zE b)) (zI ((0+(zE b))+((zE (zN a:Int))-(zE b))) (c++[e]))),(([]:List zx),()))
def vv(b:qe)(h:zo)(d:Int)(a:zw):T (Answer×zw) :=
 let e:=(a.1.1,(a.1.2.1,(a.1.2.2.1,(a.1.2.2.2.1,(a.1.2.2.2.2.1,(a.1.2.2.2.2.2.1,()))))));  V (d != 0)
  (Y ((d,(h,([],()))),a))
  (X (cZ (a.2.1.1,(a.2.1.2.1,(a.2.1.2.2.1,(a.2.1.2.2.2.1,(a.2.1.2.2.2.2.1,(a.2.1.2.2.2.2.2.1,()))))))) λf =>
 X (XN (a.2.2.1.1,(a.2.2.1.2.1,())) f) λc =>
 X (Z2 e b.2.1 a.2.2.2.1) λg =>
 Y (((0:Int),(([]:List zx),([],()))),(e,((b.1,(b.2.1,(b.2.2.1,(b.2.2.2.1,(b.2.2.2.2.1,(b.2.2.2.2.2.1,())))))),((c.1,(c.2.1,())),(g,(a.2.2.2.2.1,())))))))
def Zt(w:Form)(c:qe)(C:zx)(i:Bool):T (qe×zo×Int) :=
 X (tN w C) λa =>
 X (QO w c) λy =>
 V (!y)
  (Y ((([]:List Rat),(([]:List Bool),(([]:List Rat),(([]:List Int),(([]:List qk),(([]:List Bool),())))))),([],1)))
  (V (zA (a<0))
  (Y ((([]:List Rat),(([]:List Bool),(([]:List Rat),(([]:List Int),(([]:List qk),(([]:List Bool),())))))),([],5)))
  (.W ((i=true)->(xe a c.2.2.2.2.1.length)) <|
 V (i&&(nth c.2.2.2.2.1 a (zb zm)).1)
  (Y ((([]:List Rat),(([]:List Bool),(([]:List Rat),(([]:List Int),(([]:List qk),(([]:List Bool),())))))),([],1)))
  (.W (((!i)=true)->(xe a c.2.2.2.2.1.length)) <|
 V ((!i)&&(!(nth c.2.2.2.2.1 a (zb zm)).1))
  (Y ((([]:List Rat),(([]:List Bool),(([]:List Rat),(([]:List Int),(([]:List qk),(([]:List Bool),())))))),([],12)))
  (X (lN c) λ(D,d,e,f,g,b,h) =>
 X (yT 0) λk=>let j:=zL b (0+(zE a)) (false,(false,((k.1,(k.2.1,(k.2.2.1,()))),()))); let x:=zL j (0+(zE a)) (true,(false,(((nth c.2.2.1 a (zb zl)).1,((nth c.2.2.1 a (zb zl)).2.1,((nth c.2.2.1 a (zb zl)).2.2.1,()))),())));
 oI a b <|
 .W (uN b.length b.length (0+(zE a)) b.length) <|
 X (V i
  (oI a c.2.2.1 <|
 oI a b <|
 .W (uN b.length b.length (0+(zE a)) j.length) <|
 U d <|
 U e <|
 U f <|
 U g <|
 .W (b.length=x.length) <|
 U h <|
 oC d <|
 oC e <|
 oC f <|
 oC g <|
 .W (zu b.length 0 b.length x.length) <|
 oC h <|
 Y ((([]:List Rat),(([]:List Bool),(([]:List Rat),(([]:List Int),(([]:List qk),(([]:List Bool),())))))),(d,(e,(f,(g,(x,(h,()))))))))
  (U d <|
 U e <|
 U f <|
 U g <|
 .W (b.length=j.length) <|
 U h <|
 oC d <|
 oC e <|
 oC f <|
 oC g <|
 .W (zu b.length 0 b.length j.length) <|
 oC h <|
 Y ((([]:List Rat),(([]:List Bool),(([]:List Rat),(([]:List Int),(([]:List qk),(([]:List Bool),())))))),(d,(e,(f,(g,(j,(h,())))))))):T ((qe×zr×zp×zr×z7×zn×zp×Unit))) λ(κ',l,m,n,o,p,q,G) =>
 oW l m n o p q <|
 X (dG w ((zH 0 (zI (0+l.length) l)),((zH 0 (zI (0+m.length) m)),((zH 0 (zI (0+n.length) n)),((zH 0 (zI (0+o.length) o)),((zH 0 (zI (0+p.length) p)),((zH 0 (zI (0+q.length) q)),()))))))) λ(z,A,hI,r,s,t,u,v) =>
 U r <|
 U s <|
 U t <|
 U u <|
 U v <|
 Y (((zH 0 (zI (0+r.length) r)),((zH 0 (zI (0+s.length) s)),(z.1,((zH 0 (zI (0+t.length) t)),((zH 0 (zI (0+u.length) u)),((zH 0 (zI (0+v.length) v)),())))))),(A,hI))))))
def gq(a:Param)(b:zx):T Bool :=
 Y (wK a.1 b)
def lO(k:Int):(Int×z7×(zr×zp×zr×zn×zp×Unit)×zy×z7×Unit×(qc×qg×xc×qm×xa×qp×Unit)×z7)->T ((Int×z7×(zr×zp×zr×zn×zp×Unit)×zy×z7×Unit×(qc×qg×xc×qm×xa×qp×Unit)×z7)⊕((z7×(zr×zp×zr×zn×zp×Unit)×zy×z7×Unit×(qc×qg×xc×qm×xa×qp×Unit)×z7)))
 | (g,b,c,e,a,l,f,d)=>let j:=(f.1,(f.2.1,(f.2.2.1,(f.2.2.2.1,(f.2.2.2.2.1,(f.2.2.2.2.2.1,())))))); let h:=wi a (0+(zE g)) (zb (.int .i64)); let i:=d++([(wi b (0+(zE h)) (zb (.int .i64)))]:List Int);
 V (zA (g<k))
  (oI g a <|
 .W (uN a.length a.length (0+(zE g)) a.length) <|
 oI h b <|
 .W (uN b.length b.length (0+(zE h)) b.length) <|
 oA d 8 <|
 oC a <|
 U b <|
 oC b <|
 U e <|
 U a <|
 oC e <|
 .W (zu (d.length+1) 0 (d.length+1) i.length) <|
 oC a <|
 .W ((d.length+1)=i.length) <|
 Y (zG ((qo (g+1)),(b,((c.1,(c.2.1,(c.2.2.1,(c.2.2.2.1,(c.2.2.2.2.1,()))))),(e,(a,((),(j,i)))))))))
  (U b <|
 oC b <|
 U e <|
 U a <|
 oC e <|
 oC d <|
 oC a <|
 U d <|
 Y (zF (b,((c.1,(c.2.1,(c.2.2.1,(c.2.2.2.1,(c.2.2.2.2.1,()))))),(e,(a,((),(j,d))))))))
def tL x s:=zJ (lO x) s
def lP(m:zn)(p:Int):(Int×z7×(zr×zp×zr×zn×zp×Unit)×zy×z7×Unit×(qc×qg×xc×qm×xa×qp×Unit)×z7)->T ((Int×z7×(zr×zp×zr×zn×zp×Unit)×zy×z7×Unit×(qc×qg×xc×qm×xa×qp×Unit)×z7)⊕((z7×(zr×zp×zr×zn×zp×Unit)×zy×z7×Unit×(qc×qg×xc×qm×xa×qp×Unit)×z7)))
 | (f,b,a,c,d,q,h,e)=>let n:=(h.1,(h.2.1,(h.2.2.1,(h.2.2.2.1,(h.2.2.2.2.1,(h.2.2.2.2.2.1,())))))); let i:=nth m f (zb zm); let o:=(b,((a.1,(a.2.1,(a.2.2.1,(a.2.2.2.1,(a.2.2.2.2.1,()))))),(c,(d,((),(n,e))))));
 V (zA (f<p))
  (oI f m <|
 V (!i.1)
  (U b <|
 oC b <|
 U c <|
 U d <|
 oC c <|
 oC e <|
 oC d <|
 U e <|
 Y (zG ((qo (f+1)),o)))
  (oC c <|
 oC e <|
 oC d <|
 U c <|
 U e <|
 U d <|
 X (kJ f (i.2.2.1.1,(i.2.2.1.2.1,(i.2.2.1.2.2.1,()))) (bif i.2.1 then f else(-1)) n c e d) λ(g,j,k,l) =>
 U b <|
 oC b <|
 U j <|
 U l <|
 oC j <|
 oC k <|
 oC l <|
 U k <|
 Y (zG ((qo (f+1)),(b,((a.1,(a.2.1,(a.2.2.1,(a.2.2.2.1,(a.2.2.2.2.1,()))))),(j,(l,((),((g.1,(g.2.1,(g.2.2.1,(g.2.2.2.1,(g.2.2.2.2.1,(g.2.2.2.2.2.1,())))))),k))))))))))
  (U b <|
 oC b <|
 U c <|
 U d <|
 oC c <|
 oC e <|
 oC d <|
 U e <|
 Y (zF o))
def tM x2 x3 s:=zJ (lP x2 x3) s
def ef(c:Form)(a:(zr×zp×zr×zn×zp×Unit))(b:z7):T ((Int×z7×(qc×qg×xc×qm×xa×qp×Unit)×zy×z7×z7)⊕(zo×Int×z7)) :=
 U b <|
 X (QR c (a.1,(a.2.1,(a.2.2.1,((zH 0 (zI (0+b.length) b)),(a.2.2.2.1,(a.2.2.2.2.1,()))))))) λs =>
 V (!s)
  (U b <|
 Y (zF ([],(1,b))))
  (X (mQ c a.1 a.2.1) λ(t,q,h,i,g) =>
 V ((h != 0)&&(!(wK q [])))
  (U b <|
 Y (zF ([q],(h,b))))
  (V (h != 0)
  (U b <|
 Y (zF ([],(h,b))))
  (oC g <|
 U b <|
 oC b <|
 U i <|
 U g <|
 oC i <|
 .W (zu 0 0 0 0) <|
 oC g <|
 .W (0=0) <|
 X (tL (g.length:Int) (0,(b,((a.1,(a.2.1,(a.2.2.1,(a.2.2.2.1,(a.2.2.2.2.1,()))))),(i,(g,((),((c.1,(c.2.1,(c.2.2.1,(c.2.2.2.1,(c.2.2.2.2.1,(c.2.2.2.2.2.1,())))))),[])))))))) λ(j,d,k,l,u,e,m) =>
 U j <|
 oC j <|
 U k <|
 U l <|
 oC k <|
 oC m <|
 oC l <|
 U m <|
 X (tM d.2.2.2.1 (d.2.2.2.1.length:Int) (0,(j,((d.1,(d.2.1,(d.2.2.1,(d.2.2.2.1,(d.2.2.2.2.1,()))))),(k,(l,((),((e.1,(e.2.1,(e.2.2.1,(e.2.2.2.1,(e.2.2.2.2.1,(e.2.2.2.2.2.1,())))))),m)))))))) λ(r,v,n,o,w,f,p) =>
 U r <|
 oC n <|
 oC p <|
 oC o <|
 U n <|
 U p <|
 U o <|
 Y (zG (0,(r,((f.1,(f.2.1,(f.2.2.1,(f.2.2.2.1,(f.2.2.2.2.1,(f.2.2.2.2.2.1,())))))),(n,(p,o)))))))))
def ga(b:z7)(c:z7)(d:Int):Int->T (Int⊕(Unit⊕Bool))
 | a =>
 V (zA (a<d))
  (oI a b <|
 oI a c <|
 V ((nth b a (zb (.int .u32))) != (nth c a (zb (.int .u32))))
  (Y (zF (zF false)))
  (Y (zG (qo (a+1)))))
  (Y (zF (zG ())))
def dU s11 s21 x s:=zJ (ga s11 s21 x) s
def jo(a:z7)(b:z7):T Bool :=
 V ((a.length:Int) != (b.length:Int))
  (Y false)
  (X (dU a b (a.length:Int) 0) <|
 zK (λ_ =>
 Y true)
  (λc =>
 Y c))
def Xl(e:Rat)(f:Rat):T Bool :=
 X (vD e) λa =>
 X (vD f) λb =>
 V (a.1==b.1)
  (X (jo a.2.1 b.2.1) λc =>
 V c
  (X (jo a.2.2.1 b.2.2.1) λd =>
 Y d)
  (Y false))
  (Y false)
def mK(a:Term)(b:Term):T Bool :=
 V (a.1==b.1)
  (X (Xl a.2.1 b.2.1) λc =>
 Y c)
  (Y false)
def uT(b:wB)(e:Term->Term->T Bool)(c:wB)(f:Int):Int->T (Int⊕(Unit⊕Bool))
 | a =>
 V (zA (a<f))
  (oI a c <|
 oI a b <|
 X (e (nth c a (zb qj)) (nth b a (zb qj))) λd =>
 V (!d)
  (Y (zF (zF false)))
  (Y (zG (qo (a+1)))))
  (Y (zF (zG ())))
def yq s21 eq x x1 s:=zJ (uT s21 eq x x1) s
def jm(a:wB)(b:wB)(d:Term->Term->T Bool):T Bool :=
 V ((a.length:Int) != (b.length:Int))
  (Y false)
  (X (yq b d a (a.length:Int) 0) <|
 zK (λ_ =>
 Y true)
  (λc =>
 Y c))
def VA(a:vI)(b:vI):T Bool :=
 V (a.1==b.1)
  (X (Xl a.2.2.1 b.2.2.1) λc =>
 V c
  (X (jm a.2.1 b.2.1 (λz0 z1=>mK z0 z1)) λd =>
 Y d)
  (Y false))
  (Y false)
def nL(G:Form)(κ':Int):(Int×z7×(zr×zp×zr×zn×zp×Unit)×qe×(qc×qg×xc×qm×xa×qp×Unit)×zy×z7×z7×(qc×qg×xc×qm×xa×qp×Unit)×zy×z7×z7)->T ((Int×z7×(zr×zp×zr×zn×zp×Unit)×qe×(qc×qg×xc×qm×xa×qp×Unit)×zy×z7×z7×(qc×qg×xc×qm×xa×qp×Unit)×zy×z7×z7)⊕((z7×(zr×zp×zr×zn×zp×Unit)×qe×(qc×qg×xc×qm×xa×qp×Unit)×zy×z7×z7×(qc×qg×xc×qm×xa×qp×Unit)×zy×z7×z7)))
 | (i,f,u,D,l,a,g,c,m,b,h,d)=>let x:=(f,((u.1,(u.2.1,(u.2.2.1,(u.2.2.2.1,(u.2.2.2.2.1,()))))),(D,((l.1,(l.2.1,(l.2.2.1,(l.2.2.2.1,(l.2.2.2.2.1,(l.2.2.2.2.2.1,())))))),(a,(g,(c,((m.1,(m.2.1,(m.2.2.1,(m.2.2.2.1,(m.2.2.2.2.1,(m.2.2.2.2.2.1,())))))),(b,(h,d))))))))));
 V (zA (i<κ'))
  (U c <|
 X (uG (zH 0 (zI (0+c.length) c)) i) λv =>
 U d <|
 X (uG (zH 0 (zI (0+d.length) d)) i) λw =>
 X (V (zA (v<0))
  (U f <|
 oC f <|
 oC a <|
 oC g <|
 oC c <|
 U a <|
 U g <|
 U c <|
 oC b <|
 oC h <|
 oC d <|
 U b <|
 U h <|
 U d <|
 Y (true,x))
  (V (zA (w<0))
  (U f <|
 oC f <|
 oC a <|
 oC g <|
 oC c <|
 U a <|
 U g <|
 U c <|
 oC b <|
 oC h <|
 oC d <|
 U b <|
 U h <|
 U d <|
 Y (true,x))
  (oI v a <|
 .W (uN a.length a.length (0+(zE v)) a.length) <|
 oI w b <|
 .W (uN b.length b.length (0+(zE w)) b.length) <|
 X (VA (wi a (0+(zE v)) (zb zq)) (wi b (0+(zE w)) (zb zq))) λA =>
 U f <|
 oC f <|
 oC a <|
 oC g <|
 oC c <|
 U a <|
 U g <|
 U c <|
 oC b <|
 oC h <|
 oC d <|
 U b <|
 U h <|
 U d <|
 Y ((!A),x))):T ((Bool×z7×(zr×zp×zr×zn×zp×Unit)×qe×(qc×qg×xc×qm×xa×qp×Unit)×zy×z7×z7×(qc×qg×xc×qm×xa×qp×Unit)×zy×z7×z7))) λ(hI,e,n,C,j,o,p,q,k,r,s,t)=>let y:=zL e (0+(zE i)) (-1); let z:=((n.1,(n.2.1,(n.2.2.1,(n.2.2.2.1,(n.2.2.2.2.1,()))))),(C,((j.1,(j.2.1,(j.2.2.1,(j.2.2.2.1,(j.2.2.2.2.1,(j.2.2.2.2.2.1,())))))),(o,(p,(q,((k.1,(k.2.1,(k.2.2.1,(k.2.2.2.1,(k.2.2.2.2.1,(k.2.2.2.2.2.1,())))))),(r,(s,t)))))))));
 V hI
  (oI i e <|
 .W (uN e.length e.length (0+(zE i)) e.length) <|
 .W (e.length=y.length) <|
 .W (zu e.length 0 e.length y.length) <|
 oC o <|
 oC p <|
 oC q <|
 U o <|
 U p <|
 U q <|
 oC r <|
 oC s <|
 oC t <|
 U r <|
 U s <|
 U t <|
 Y (zG ((qo (i+1)),(y,z))))
  (U e <|
 oC e <|
 oC o <|
 oC p <|
 oC q <|
 U o <|
 U p <|
 U q <|
 oC r <|
 oC s <|
 oC t <|
 U r <|
 U s <|
 U t <|
 Y (zG ((qo (i+1)),(e,z)))))
  (U f <|
 oC f <|
 oC a <|
 oC g <|
 oC c <|
 U a <|
 U g <|
 U c <|
 oC b <|
 oC h <|
 oC d <|
 U b <|
 U h <|
 U d <|
 Y (zF x))
def Ql f1 x1 s:=zJ (nL f1 x1) s
end Go.AM.Lf
